/- Each function's own law: what the call answers, as a plain Lean function; a text that a program of this session wrote. -/
import Derived.Test.YtjjnfjhhimijmaaAx0
import Derived.Test.YtjjnfjhhimijmaaAx1
import Derived.Test.YtjjnfjhhimijmaaHandGood
import Derived.Test.YtjjnfjhhimijmaaHandSmall19
namespace Go.Proofs.Ytjjnfjhhimijmaa.A
open Go.RowKit Go.Proofs.YtjjnfjhhimijmaaW.PrintWords Go.Proofs.YtjjnfjhhimijmaaW.PrintLast Go.Proofs.YtjjnfjhhimijmaaW.PrintMore
attribute [local go_sem] max2_int min2_int max_two min_two max_three min_three max_four min_four   -- for this text's walks alone
set_option linter.unusedVariables false
set_option linter.unusedSimpArgs false

attribute [local go_sem high] eqA31
/-! ### crossbucklaw19_DemandGood: function 7 -/
mutual
def crossbucklaw19_DemandGood.j0 : Nat → Int → Bool → Bool → Bool → Bool → Bool → Bool → Bool → Bool → Bool → Bool → Int → Bool → Bool → Int → List (S81) → Option (Bool)
  | 0, _, _, _, _, _, _, _, _, _, _, _, _, _, _, _, _ => none
  | k + 1, x1, x2, x7, x16, x189000, x189001, x189002, x189003, x189004, x189005, x189006, x189007, x189008, x189009, x189010, x189011 => if x16 = true then (some x7) else (crossbucklaw19_DemandGood.l0 k x1 x2 x7 ([] : List (S39)) 0 x189000 x189001 x189002 x189003 x189004 true x189006 (wrap64 ((Go.bits .and .i64 x189007 1) * 2)) true x189009 0 x189011)
def crossbucklaw19_DemandGood.l0 : Nat → Int → Bool → Bool → List (S39) → Int → Bool → Bool → Bool → Bool → Bool → Bool → Bool → Int → Bool → Bool → Int → List (S81) → Option (Bool)
  | 0, _, _, _, _, _, _, _, _, _, _, _, _, _, _, _, _, _ => none
  | k + 1, x1, x2, x7, x8, x9, x189000, x189001, x189002, x189003, x189004, x189005, x189006, x189007, x189008, x189009, x189010, x189011 => if x9 < x1 then (if x8.length < 1759218604441 then (crossbucklaw19_DemandGood.l0 k x1 x2 x7 (x8 ++ [(⟨(⟨false, 0, 0, false⟩ : S35), (⟨0, 0, false⟩ : S37), true, 0, false, false⟩ : S39)]) (wrap64 (x9 + 1)) x189000 x189001 x189002 x189003 x189004 x189005 x189006 x189007 x189008 x189009 x189010 x189011) else (none)) else (if x7 = true then ((demand_Good.f k x189000 x189001 x189002 x189003 x189004 x189005 x189006 x189007 x189008 x189009 x189010 x189011 x8).bind fun t193 => (if t193 = true then ((demand_Of.f k x189000 x189001 x189002 x189003 x189004 x189005 x189006 x189007 x189008 x189009 x189010 x189011 x8 false x2).bind fun bt194 => (some (!bt194.1 && (!bt194.2)))) else (some false))) else (some false))
end
def crossbucklaw19_DemandGood.f (k : Nat) (a0_0 : Bool) (a0_1 : Bool) (a0_2 : Bool) (a0_3 : Bool) (a0_4 : Bool) (a0_5 : Bool) (a0_6 : Bool) (a0_7 : Int) (a0_8 : Bool) (a0_9 : Bool) (a0_10 : Int) (l0_11 : List (S81)) (a1 : Int) (a2 : Bool) : Option (Bool) := (crossbucklaw19_small.f).bind fun t189 => (if a1 < 0 then (crossbucklaw19_DemandGood.j0 k a1 a2 t189 true a0_0 a0_1 a0_2 a0_3 a0_4 a0_5 a0_6 a0_7 a0_8 a0_9 a0_10 l0_11) else (crossbucklaw19_DemandGood.j0 k a1 a2 t189 (decide (a1 > 50)) a0_0 a0_1 a0_2 a0_3 a0_4 a0_5 a0_6 a0_7 a0_8 a0_9 a0_10 l0_11))
theorem crossbucklaw19_DemandGood.mono_l : ∀ k, (∀ y0 y1 y2 y3 y4 y5 y6 y7 y8 y9 y10 y11 y12 y13 y14 y15, LeO (crossbucklaw19_DemandGood.j0 k y0 y1 y2 y3 y4 y5 y6 y7 y8 y9 y10 y11 y12 y13 y14 y15) (crossbucklaw19_DemandGood.j0 (k + 1) y0 y1 y2 y3 y4 y5 y6 y7 y8 y9 y10 y11 y12 y13 y14 y15)) ∧ (∀ y0 y1 y2 y3 y4 y5 y6 y7 y8 y9 y10 y11 y12 y13 y14 y15 y16, LeO (crossbucklaw19_DemandGood.l0 k y0 y1 y2 y3 y4 y5 y6 y7 y8 y9 y10 y11 y12 y13 y14 y15 y16) (crossbucklaw19_DemandGood.l0 (k + 1) y0 y1 y2 y3 y4 y5 y6 y7 y8 y9 y10 y11 y12 y13 y14 y15 y16))
  | 0 => ⟨fun _ _ _ _ _ _ _ _ _ _ _ _ _ _ _ _ r h => by simp [crossbucklaw19_DemandGood.j0] at h, fun _ _ _ _ _ _ _ _ _ _ _ _ _ _ _ _ _ r h => by simp [crossbucklaw19_DemandGood.l0] at h⟩
  | k + 1 => by
    obtain ⟨ih0, ih1⟩ := crossbucklaw19_DemandGood.mono_l k
    refine ⟨?_, ?_⟩
    · intro y0 y1 y2 y3 y4 y5 y6 y7 y8 y9 y10 y11 y12 y13 y14 y15
      unfold crossbucklaw19_DemandGood.j0
      repeat' first
      | (with_reducible exact ih0 _ _ _ _ _ _ _ _ _ _ _ _ _ _ _ _)
      | (with_reducible exact ih1 _ _ _ _ _ _ _ _ _ _ _ _ _ _ _ _ _)
      | (with_reducible exact demand_Good.mono _ _ _ _ _ _ _ _ _ _ _ _ _ _)
      | (with_reducible exact demand_Of.mono _ _ _ _ _ _ _ _ _ _ _ _ _ _ _ _)
      | (with_reducible exact LeO.refl _)
      | (with_reducible exact LeO.none _)
      | (with_reducible refine LeO.ite ?_ ?_)
      | (with_reducible refine LeO.bind ?_ (fun _ => ?_))
      | exact ih0 _ _ _ _ _ _ _ _ _ _ _ _ _ _ _ _
      | exact ih1 _ _ _ _ _ _ _ _ _ _ _ _ _ _ _ _ _
      | exact demand_Good.mono _ _ _ _ _ _ _ _ _ _ _ _ _ _
      | exact demand_Of.mono _ _ _ _ _ _ _ _ _ _ _ _ _ _ _ _
      | exact LeO.none _
      | refine LeO.ite ?_ ?_
      | refine LeO.bind ?_ (fun _ => ?_)
    · intro y0 y1 y2 y3 y4 y5 y6 y7 y8 y9 y10 y11 y12 y13 y14 y15 y16
      unfold crossbucklaw19_DemandGood.l0
      repeat' first
      | (with_reducible exact ih0 _ _ _ _ _ _ _ _ _ _ _ _ _ _ _ _)
      | (with_reducible exact ih1 _ _ _ _ _ _ _ _ _ _ _ _ _ _ _ _ _)
      | (with_reducible exact demand_Good.mono _ _ _ _ _ _ _ _ _ _ _ _ _ _)
      | (with_reducible exact demand_Of.mono _ _ _ _ _ _ _ _ _ _ _ _ _ _ _ _)
      | (with_reducible exact LeO.refl _)
      | (with_reducible exact LeO.none _)
      | (with_reducible refine LeO.ite ?_ ?_)
      | (with_reducible refine LeO.bind ?_ (fun _ => ?_))
      | exact ih0 _ _ _ _ _ _ _ _ _ _ _ _ _ _ _ _
      | exact ih1 _ _ _ _ _ _ _ _ _ _ _ _ _ _ _ _ _
      | exact demand_Good.mono _ _ _ _ _ _ _ _ _ _ _ _ _ _
      | exact demand_Of.mono _ _ _ _ _ _ _ _ _ _ _ _ _ _ _ _
      | exact LeO.none _
      | refine LeO.ite ?_ ?_
      | refine LeO.bind ?_ (fun _ => ?_)
theorem crossbucklaw19_DemandGood.mono : ∀ a0 a1 a2 a3 a4 a5 a6 a7 a8 a9 a10 a11 a12 a13 k, LeO (crossbucklaw19_DemandGood.f k a0 a1 a2 a3 a4 a5 a6 a7 a8 a9 a10 a11 a12 a13) (crossbucklaw19_DemandGood.f (k + 1) a0 a1 a2 a3 a4 a5 a6 a7 a8 a9 a10 a11 a12 a13) := by
  intro a0 a1 a2 a3 a4 a5 a6 a7 a8 a9 a10 a11 a12 a13 k
  obtain ⟨ih0, ih1⟩ := crossbucklaw19_DemandGood.mono_l k
  unfold crossbucklaw19_DemandGood.f
  repeat' first
      | (with_reducible exact ih0 _ _ _ _ _ _ _ _ _ _ _ _ _ _ _ _)
      | (with_reducible exact ih1 _ _ _ _ _ _ _ _ _ _ _ _ _ _ _ _ _)
      | (with_reducible exact demand_Good.mono _ _ _ _ _ _ _ _ _ _ _ _ _ _)
      | (with_reducible exact demand_Of.mono _ _ _ _ _ _ _ _ _ _ _ _ _ _ _ _)
      | (with_reducible exact LeO.refl _)
      | (with_reducible exact LeO.none _)
      | (with_reducible refine LeO.ite ?_ ?_)
      | (with_reducible refine LeO.bind ?_ (fun _ => ?_))
      | exact ih0 _ _ _ _ _ _ _ _ _ _ _ _ _ _ _ _
      | exact ih1 _ _ _ _ _ _ _ _ _ _ _ _ _ _ _ _ _
      | exact demand_Good.mono _ _ _ _ _ _ _ _ _ _ _ _ _ _
      | exact demand_Of.mono _ _ _ _ _ _ _ _ _ _ _ _ _ _ _ _
      | exact LeO.none _
      | refine LeO.ite ?_ ?_
      | refine LeO.bind ?_ (fun _ => ?_)
set_option maxHeartbeats 8000000 in
set_option maxRecDepth 100000 in
theorem crossbucklaw19_DemandGood.calls (k : Nat) (a0_0 : Bool) (a0_1 : Bool) (a0_2 : Bool) (a0_3 : Bool) (a0_4 : Bool) (a0_5 : Bool) (a0_6 : Bool) (a0_7 : Int) (a0_8 : Bool) (a0_9 : Bool) (a0_10 : Int) (A0_11 : Option Addr) (c0_11 : Nat) (l0_11 : List (S81)) (a1 : Int) (a2 : Bool) (r : Bool) (w : World) (hr0_11 : Kd.C k81 w A0_11 l0_11.length l0_11) (hc0_11 : l0_11.length ≤ c0_11) (h : crossbucklaw19_DemandGood.f k a0_0 a0_1 a0_2 a0_3 a0_4 a0_5 a0_6 a0_7 a0_8 a0_9 a0_10 l0_11 a1 a2 = some r) :
    Calls Try.prog 7 #[.agg #[.bool a0_0, .bool a0_1, .bool a0_2, .bool a0_3, .bool a0_4, .bool a0_5, .bool a0_6, .int .i64 a0_7, .bool a0_8, .bool a0_9, .int .i64 a0_10, .slice A0_11 l0_11.length c0_11], .int .i64 a1, .bool a2] w fun e w' => e = .returned (.bool r) ∧ Below w.heap.size w w' := by
  have hu26 := Try.underlying26
  have hu39 := Try.underlying39
  have hu31 := Try.underlying31
  have HR0_11 := Aside0.mk hr0_11
  have HC0_11 := Aside0.mk hc0_11
  clear hr0_11 hc0_11
  have HB := Aside0.mk (Below.refl w.heap.size w)
  have H : ((crossbucklaw19_small.f).bind fun t189 => (if a1 < 0 then (crossbucklaw19_DemandGood.j0 k a1 a2 t189 true a0_0 a0_1 a0_2 a0_3 a0_4 a0_5 a0_6 a0_7 a0_8 a0_9 a0_10 l0_11) else (crossbucklaw19_DemandGood.j0 k a1 a2 t189 (decide (a1 > 50)) a0_0 a0_1 a0_2 a0_3 a0_4 a0_5 a0_6 a0_7 a0_8 a0_9 a0_10 l0_11))) = some r := h
  clear h
  replace H := Option.bind_eq_some_iff.mp H
  obtain ⟨t189, A40, H⟩ := H
  replace H : (if a1 < 0 then (crossbucklaw19_DemandGood.j0 k a1 a2 t189 true a0_0 a0_1 a0_2 a0_3 a0_4 a0_5 a0_6 a0_7 a0_8 a0_9 a0_10 l0_11) else (crossbucklaw19_DemandGood.j0 k a1 a2 t189 (decide (a1 > 50)) a0_0 a0_1 a0_2 a0_3 a0_4 a0_5 a0_6 a0_7 a0_8 a0_9 a0_10 l0_11)) = some r := H
  have A4 := Aside0.mk A40
  clear A40
  have HC5 := Aside0.mk H
  clear H
  go_enter Try.func7, Try.ntmps7
  go_upto_region 2 with (first | ((with_reducible refine gate_dst (N := 3) rfl ?_); refine box_event ?hg (N := 3) ?hd (cs := #[.bool a0_0, .bool a0_1, .bool a0_2, .bool a0_3, .bool a0_4, .bool a0_5, .bool a0_6, .int .i64 a0_7, .bool a0_8, .bool a0_9, .int .i64 a0_10, .slice A0_11 l0_11.length c0_11]) (t := 26) ?hr ?_; (case hd => rfl); (case hg => rfl); (case hr => first | (go_simp; done) | (go_simp; rfl)); intro gb188 hg w6 hbox hb; have n0_ := Aside0.mk (below_step (by repeat (first | (with_reducible first | exact HB.out | apply below_alloc | apply pw_below_drewN | apply below_drew1) | exact HB.out)) hb); have n1_ := Aside0.mk (hbox); have n2_ := Aside0.mk ((by rw [hg]; exact (below_size (by repeat (first | (with_reducible first | exact HB.out | apply below_alloc | apply pw_below_drewN | apply below_drew1) | exact HB.out))) : w.heap.size ≤ gb188)); have n3_ := Aside0.mk ((by rw [hg]; exact (below_size (by repeat (first | (with_reducible first | exact HB.out | apply below_alloc | apply pw_below_drewN | apply below_drew1) | exact HB.out))) : w.heap.size ≤ gb188)); clear HB; have HB := n0_; have BK188 := n1_; have GW188 := n2_; have GE188 := n3_; clear n0_ n1_ n2_ n3_; clear hb hbox hg) | ((with_reducible refine gate_callee (f := 12) rfl ?_); refine goesL_ (some 10) rfl rfl Try.func12 (by kernel_rfl) rfl #[] rfl (by (try simp only [List.map_toArray, List.map_cons, List.map_nil]); first | done | rfl | (simp only [List.length_drop, List.length_take]; rfl)) ?_; (with_reducible refine (crossbucklaw19_small.calls  t189 _ A4.out).mono ?_); rintro e w7 ⟨rfl, hb⟩; refine ⟨_, rfl, ?_⟩; have n0_ := Aside0.mk (blk_below (g := gb188) (o := .cells #[.bool a0_0, .bool a0_1, .bool a0_2, .bool a0_3, .bool a0_4, .bool a0_5, .bool a0_6, .int .i64 a0_7, .bool a0_8, .bool a0_9, .int .i64 a0_10, .slice A0_11 l0_11.length c0_11] 26 (0, 0)) (by (with_reducible repeat (first | refine blk_drewN ?_ _ | refine blk_drew ?_ | refine blk_alloc ?_ _)); exact BK188.out) hb); have n1_ := Aside0.mk (below_step (by repeat (first | (with_reducible first | exact HB.out | apply below_alloc | apply pw_below_drewN | apply below_drew1 | refine below_set ?_ GE188.out) | exact HB.out)) hb); clear BK188; clear HB; have BK188 := n0_; have HB := n1_; clear n0_ n1_; (try clear hb); (try clear hb2); (try clear hk); (try clear hi)))
  (try simp only [Act.put, List.setIfInBounds_toArray, List.set_cons_zero, List.set_cons_succ])
  go_cut [16] (fun v16 wc => ∃ (kq : Nat) (x16_4 : Bool), v16 = .bool x16_4 ∧ Aside0 (crossbucklaw19_DemandGood.j0 kq a1 a2 t189 x16_4 a0_0 a0_1 a0_2 a0_3 a0_4 a0_5 a0_6 a0_7 a0_8 a0_9 a0_10 l0_11 = some r) ∧ Aside0 (kq ≤ k) ∧ Aside0 (wc.heap[gb188]? = some (.cells #[.bool a0_0, .bool a0_1, .bool a0_2, .bool a0_3, .bool a0_4, .bool a0_5, .bool a0_6, .int .i64 a0_7, .bool a0_8, .bool a0_9, .int .i64 a0_10, (.slice A0_11 l0_11.length c0_11)] 26 (0, 0))) ∧ Aside0 (Below w.heap.size w wc))
  case first =>
    have H := HC5.out
    clear HC5
    by_cases c8 : a1 < 0
    · rw [if_pos c8] at H
      have c8b0 : decide (a1 < 0) = true := decide_eq_true c8
      clear c8
      (first | rw [c8b0] | (simp only [i64_w, i32_w]; rw [c8b0]) | skip)
      have H' := Aside0.mk H
      clear H
      go_wp2
      go_meet
      case rel => exact ⟨_, (true), (by first | rfl | (simp; done) | (simp [*]; done)), H', ⟨by first | omega | exact Nat.le_refl _⟩, ⟨by (with_reducible repeat (first | refine blk_drewN ?_ _ | refine blk_drew ?_ | refine blk_alloc ?_ _)); exact BK188.out⟩, ⟨by repeat (first | (with_reducible first | exact HB.out | apply below_alloc | apply pw_below_drewN | apply below_drew1 | refine below_set ?_ GE188.out) | exact HB.out)⟩⟩
    · rw [if_neg c8] at H
      have c8b0 : decide (a1 < 0) = false := decide_eq_false c8
      clear c8
      (first | rw [c8b0] | (simp only [i64_w, i32_w]; rw [c8b0]) | skip)
      have H' := Aside0.mk H
      clear H
      go_wp2
      go_meet
      case rel => exact ⟨_, (decide (a1 > 50)), (by first | rfl | (simp; done) | (simp [*]; done)), H', ⟨by first | omega | exact Nat.le_refl _⟩, ⟨by (with_reducible repeat (first | refine blk_drewN ?_ _ | refine blk_drew ?_ | refine blk_alloc ?_ _)); exact BK188.out⟩, ⟨by repeat (first | (with_reducible first | exact HB.out | apply below_alloc | apply pw_below_drewN | apply below_drew1 | refine below_set ?_ GE188.out) | exact HB.out)⟩⟩
  case rest =>
    clear HC5
    try clear c1
    try clear p2
    try clear c7
    try clear c8
    try clear c8b0
    obtain ⟨kq, x16_4, rfl, HA, HJ4, BK188, HB⟩ := hcut
    cases kq with
    | zero => exact absurd HA.out (by simp [crossbucklaw19_DemandGood.j0])
    | succ kj4 =>
      have H := HA.out
      clear HA
      simp only [crossbucklaw19_DemandGood.j0] at H
      by_cases c9 : x16_4 = true
      · subst c9
        have H1 : (some t189) = some r := by rw [if_pos rfl] at H; exact H
        clear H
        have H := H1
        clear H1
        obtain rfl := Option.some.inj H
        go_wp2
        go_ret
        exact ⟨by first | rfl | (simp [errW_none, errW_some] <;> rfl) | (simp [*, errW_none, errW_some] <;> rfl), by repeat (first | (with_reducible first | exact HB.out | apply below_alloc | apply pw_below_drewN | apply below_drew1 | refine below_set ?_ GE188.out) | exact HB.out)⟩
      · replace c9 := Bool.eq_false_iff.mpr c9
        subst c9
        have H1 : (crossbucklaw19_DemandGood.l0 kj4 a1 a2 t189 ([] : List (S39)) 0 a0_0 a0_1 a0_2 a0_3 a0_4 true a0_6 (wrap64 ((Go.bits .and .i64 a0_7 1) * 2)) true a0_9 0 l0_11) = some r := by rw [if_neg (show ¬ (false = true) by decide)] at H; exact H
        clear H
        have H := H1
        clear H1
        have H' := Aside0.mk H
        clear H
        have hcz10_0 : wc.cell? ⟨gb188, 0, none⟩ = some (.bool a0_0) := (blk_cell BK188.out 0).trans rfl
        have hcz10_1 : wc.cell? ⟨gb188, 1, none⟩ = some (.bool a0_1) := (blk_cell BK188.out 1).trans rfl
        have hcz10_2 : wc.cell? ⟨gb188, 2, none⟩ = some (.bool a0_2) := (blk_cell BK188.out 2).trans rfl
        have hcz10_3 : wc.cell? ⟨gb188, 3, none⟩ = some (.bool a0_3) := (blk_cell BK188.out 3).trans rfl
        have hcz10_4 : wc.cell? ⟨gb188, 4, none⟩ = some (.bool a0_4) := (blk_cell BK188.out 4).trans rfl
        have hcz10_5 : wc.cell? ⟨gb188, 5, none⟩ = some (.bool a0_5) := (blk_cell BK188.out 5).trans rfl
        have hcz10_6 : wc.cell? ⟨gb188, 6, none⟩ = some (.bool a0_6) := (blk_cell BK188.out 6).trans rfl
        have hcz10_7 : wc.cell? ⟨gb188, 7, none⟩ = some (.int .i64 a0_7) := (blk_cell BK188.out 7).trans rfl
        have hcz10_8 : wc.cell? ⟨gb188, 8, none⟩ = some (.bool a0_8) := (blk_cell BK188.out 8).trans rfl
        have hcz10_9 : wc.cell? ⟨gb188, 9, none⟩ = some (.bool a0_9) := (blk_cell BK188.out 9).trans rfl
        have hcz10_10 : wc.cell? ⟨gb188, 10, none⟩ = some (.int .i64 a0_10) := (blk_cell BK188.out 10).trans rfl
        have hcz10_11 : wc.cell? ⟨gb188, 11, none⟩ = some (.slice A0_11 l0_11.length c0_11) := (blk_cell BK188.out 11).trans rfl
        have hfz10_0 := blk_frozen BK188.out 0
        have hfz10_1 := blk_frozen BK188.out 1
        have hfz10_2 := blk_frozen BK188.out 2
        have hfz10_3 := blk_frozen BK188.out 3
        have hfz10_4 := blk_frozen BK188.out 4
        have hfz10_5 := blk_frozen BK188.out 5
        have hfz10_6 := blk_frozen BK188.out 6
        have hfz10_7 := blk_frozen BK188.out 7
        have hfz10_8 := blk_frozen BK188.out 8
        have hfz10_9 := blk_frozen BK188.out 9
        have hfz10_10 := blk_frozen BK188.out 10
        have hfz10_11 := blk_frozen BK188.out 11
        go_wp2
        go_loopg [8, 9] kj4 (fun kq v8 v9 w' => ∃ (x8_2 : List (S39)) (x9_2 : Int), v9 = .int .i64 x9_2 ∧ Aside0 (crossbucklaw19_DemandGood.l0 kq a1 a2 t189 x8_2 x9_2 a0_0 a0_1 a0_2 a0_3 a0_4 true a0_6 (wrap64 ((Go.bits .and .i64 a0_7 1) * 2)) true a0_9 0 l0_11 = some r) ∧ Aside0 (kq ≤ kj4) ∧ Aside0 (Kd.R k39 39 w' w.heap.size (fun _ => True) v8 x8_2) ∧ Aside0 (w'.heap[gb188]? = some (.cells #[.bool a0_0, .bool a0_1, .bool a0_2, .bool a0_3, .bool a0_4, .bool true, .bool a0_6, .int .i64 (wrap64 ((Go.bits .and .i64 a0_7 1) * 2)), .bool true, .bool a0_9, .int .i64 0, (.slice A0_11 l0_11.length c0_11)] 26 (0, 0))) ∧ Aside0 (Below w.heap.size w w'))
        case atStart => exact ⟨(([] : List (S39))), (0), (by first | rfl | (simp; done) | (simp [*]; done)), H', ⟨Nat.le_refl _⟩, ⟨by first | exact Kd.R_nil _ _ _ _ _ | exact Kd.N_nil _ _ _ _ _ | exact Kd.V_nil _ _ _ _ _ | exact Kd.Q_nil _ _ _ _ _ | exact Kd.S_nil _ _ _ _ _⟩, ⟨by (with_reducible repeat (first | refine blk_drewN ?_ _ | refine blk_drew ?_ | refine blk_alloc ?_ _)); refine blk_put (cs := #[.bool a0_0, .bool a0_1, .bool a0_2, .bool a0_3, .bool a0_4, .bool true, .bool a0_6, .int .i64 (wrap64 ((Go.bits .and .i64 a0_7 1) * 2)), .bool true, .bool a0_9, .int .i64 a0_10, .slice A0_11 l0_11.length c0_11]) ?_ 10 _ rfl; (with_reducible repeat (first | refine blk_drewN ?_ _ | refine blk_drew ?_ | refine blk_alloc ?_ _)); refine blk_put (cs := #[.bool a0_0, .bool a0_1, .bool a0_2, .bool a0_3, .bool a0_4, .bool a0_5, .bool a0_6, .int .i64 (wrap64 ((Go.bits .and .i64 a0_7 1) * 2)), .bool true, .bool a0_9, .int .i64 a0_10, .slice A0_11 l0_11.length c0_11]) ?_ 5 _ rfl; (with_reducible repeat (first | refine blk_drewN ?_ _ | refine blk_drew ?_ | refine blk_alloc ?_ _)); refine blk_put (cs := #[.bool a0_0, .bool a0_1, .bool a0_2, .bool a0_3, .bool a0_4, .bool a0_5, .bool a0_6, .int .i64 (wrap64 ((Go.bits .and .i64 a0_7 1) * 2)), .bool a0_8, .bool a0_9, .int .i64 a0_10, .slice A0_11 l0_11.length c0_11]) ?_ 8 _ rfl; (with_reducible repeat (first | refine blk_drewN ?_ _ | refine blk_drew ?_ | refine blk_alloc ?_ _)); refine blk_put (cs := #[.bool a0_0, .bool a0_1, .bool a0_2, .bool a0_3, .bool a0_4, .bool a0_5, .bool a0_6, .int .i64 a0_7, .bool a0_8, .bool a0_9, .int .i64 a0_10, .slice A0_11 l0_11.length c0_11]) ?_ 7 _ rfl; (with_reducible repeat (first | refine blk_drewN ?_ _ | refine blk_drew ?_ | refine blk_alloc ?_ _)); exact BK188.out⟩, ⟨by repeat (first | (with_reducible first | exact HB.out | apply below_alloc | apply pw_below_drewN | apply below_drew1 | refine below_set ?_ GE188.out) | exact HB.out)⟩⟩
        case round =>
          clear H'
          try clear c1
          try clear p2
          try clear p6
          try clear c7
          try clear c8
          try clear c8b0
          try clear c9
          try clear hcz10_0
          try clear hcz10_1
          try clear hcz10_10
          try clear hcz10_11
          try clear hcz10_2
          try clear hcz10_3
          try clear hcz10_4
          try clear hcz10_5
          try clear hcz10_6
          try clear hcz10_7
          try clear hcz10_8
          try clear hcz10_9
          try clear hfz10_0
          try clear hfz10_1
          try clear hfz10_10
          try clear hfz10_11
          try clear hfz10_2
          try clear hfz10_3
          try clear hfz10_4
          try clear hfz10_5
          try clear hfz10_6
          try clear hfz10_7
          try clear hfz10_8
          try clear hfz10_9
          try clear p2
          obtain ⟨x8_2, x9_2, rfl, HA, HK2, HO_8, BK188, HB⟩ := hrel
          cases gk with
          | zero => exact absurd HA.out (by simp [crossbucklaw19_DemandGood.l0])
          | succ k2 =>
            have H := HA.out
            clear HA
            simp only [crossbucklaw19_DemandGood.l0] at H
            by_cases c11 : x9_2 < a1
            · rw [if_pos c11] at H
              have c11b0 : decide (x9_2 < a1) = true := decide_eq_true c11
              clear c11
              by_cases c12 : x8_2.length < 1759218604441
              · rw [if_pos c12] at H
                have LMc12 := Aside0.mk c12
                clear c12
                obtain ⟨y190, hy190⟩ : ∃ y_ : List (S39), y_ = (x8_2 ++ [(⟨(⟨false, 0, 0, false⟩ : S35), (⟨0, 0, false⟩ : S37), true, 0, false, false⟩ : S39)]) := ⟨_, rfl⟩
                replace H : (crossbucklaw19_DemandGood.l0 k2 a1 a2 t189 y190 (wrap64 (x9_2 + 1)) a0_0 a0_1 a0_2 a0_3 a0_4 true a0_6 (wrap64 ((Go.bits .and .i64 a0_7 1) * 2)) true a0_9 0 l0_11) = some r := by first | (rw [hy190]; with_reducible exact H) | (have H2_ := (Option.bind_some _ _).symm.trans H; rw [hy190]; with_reducible exact H2_) | (have H2_ := (Option.bind_some _ _).symm.trans H; with_reducible exact H2_) | with_reducible exact H | (rw [hy190]; exact H) | exact H
                have Ny190 := Aside0.mk hy190
                clear hy190
                have H' := Aside0.mk H
                clear H
                go_wp2_with (first | ((with_reducible refine gate_builtin (b := .append) (xs := #[.tmp 31, .tmp 33]) rfl ?_); at_builtin; refine Kd.R_append k39 (w0 := w) w.heap.size rfl (.tmp 31) (.tmp 33) 27 39 (.agg #[(.bool false), (.int .i64 0), (.int .i64 0), (.bool false), (.int .i64 0), (.int .i64 0), (.bool false), (.bool false), (.int .i64 0), (.bool false), (.bool false)]) 80 rfl Try.underlying27 info39 rfl (by decide) (by omega) u8 x8_2 (⟨(⟨false, 0, 0, false⟩ : S35), (⟨0, 0, false⟩ : S37), true, 0, false, false⟩ : S39) [.bool false, .int .i64 0, .int .i64 0, .bool false, .int .i64 0, .int .i64 0, .bool false, .bool true, .int .i64 0, .bool false, .bool false] (fun _ => True) (fun _ => False) rfl rfl ?aP (fun _ hk => hk.elim) ?aF ?aO ?aB ?aS ?aL ?_; (case aP => exact k39_mkM _ _ _ (⟨(⟨false, 0, 0, false⟩ : S35), (⟨0, 0, false⟩ : S37), true, 0, false, false⟩ : S39)); (case aB => exact (by repeat (first | (with_reducible first | exact HB.out | apply below_alloc | apply pw_below_drewN | apply below_drew1 | refine below_set ?_ GE188.out) | exact HB.out))); (case aF => exact (fun _ _ => trivial)); (case aO => exact (by (with_reducible repeat (first | apply Kd.R_alloc | apply Kd.R_drewN | apply Kd.R_drew)); exact HO_8.out)); (case aS => exact (below_size (by repeat (first | (with_reducible first | exact HB.out | apply below_alloc | apply pw_below_drewN | apply below_drew1 | refine below_set ?_ GE188.out) | exact HB.out)))); (case aL => have := LMc12.out; omega); intro v191 w13 ho hb hg hat; rw [← Ny190.out] at ho; have n0_ := Aside0.mk (blk_grown (g := gb188) (o := .cells #[.bool a0_0, .bool a0_1, .bool a0_2, .bool a0_3, .bool a0_4, .bool true, .bool a0_6, .int .i64 (wrap64 ((Go.bits .and .i64 a0_7 1) * 2)), .bool true, .bool a0_9, .int .i64 0, .slice A0_11 l0_11.length c0_11] 26 (0, 0)) (by (with_reducible repeat (first | refine blk_drewN ?_ _ | refine blk_drew ?_ | refine blk_alloc ?_ _)); exact BK188.out) hg (Kd.R_ne HO_8.out BK188.out (by decide))); have n1_ := Aside0.mk (hb); have n2_ := Aside0.mk (ho); clear BK188; clear HB; clear HO_8; have BK188 := n0_; have HB := n1_; have HO192 := n2_; clear n0_ n1_ n2_; clear ho hb hg hat))
                go_roundg k2
                case measure => have := HJ4.out; have := HK2.out; omega
                case rel => exact ⟨(y190), (wrap64 (x9_2 + 1)), (by first | rfl | (simp; done) | (simp [*]; done)), H', ⟨by have := HJ4.out; have := HK2.out; omega⟩, ⟨by (with_reducible repeat (first | apply Kd.R_alloc | apply Kd.R_drewN | apply Kd.R_drew)); exact HO192.out⟩, ⟨by (with_reducible repeat (first | refine blk_drewN ?_ _ | refine blk_drew ?_ | refine blk_alloc ?_ _)); exact BK188.out⟩, ⟨by repeat (first | (with_reducible first | exact HB.out | apply below_alloc | apply pw_below_drewN | apply below_drew1 | refine below_set ?_ GE188.out) | exact HB.out)⟩⟩
              · rw [if_neg c12] at H
                exact absurd H (by simp)
            · rw [if_neg c11] at H
              have c11b0 : decide (x9_2 < a1) = false := decide_eq_false c11
              clear c11
              by_cases c14 : t189 = true
              · subst c14
                have H1 : ((demand_Good.f k2 a0_0 a0_1 a0_2 a0_3 a0_4 true a0_6 (wrap64 ((Go.bits .and .i64 a0_7 1) * 2)) true a0_9 0 l0_11 x8_2).bind fun t193 => (if t193 = true then ((demand_Of.f k2 a0_0 a0_1 a0_2 a0_3 a0_4 true a0_6 (wrap64 ((Go.bits .and .i64 a0_7 1) * 2)) true a0_9 0 l0_11 x8_2 false a2).bind fun bt194 => (some (!bt194.1 && (!bt194.2)))) else (some false))) = some r := by rw [if_pos rfl] at H; exact H
                clear H
                have H := H1
                clear H1
                replace H := Option.bind_eq_some_iff.mp H
                obtain ⟨t193, A150, H⟩ := H
                replace H : (if t193 = true then ((demand_Of.f k2 a0_0 a0_1 a0_2 a0_3 a0_4 true a0_6 (wrap64 ((Go.bits .and .i64 a0_7 1) * 2)) true a0_9 0 l0_11 x8_2 false a2).bind fun bt194 => (some (!bt194.1 && (!bt194.2)))) else (some false)) = some r := H
                have A15 := Aside0.mk A150
                clear A150
                by_cases c16 : t193 = true
                · subst c16
                  have H1 : ((demand_Of.f k2 a0_0 a0_1 a0_2 a0_3 a0_4 true a0_6 (wrap64 ((Go.bits .and .i64 a0_7 1) * 2)) true a0_9 0 l0_11 x8_2 false a2).bind fun bt194 => (some (!bt194.1 && (!bt194.2)))) = some r := by rw [if_pos rfl] at H; exact H
                  clear H
                  have H := H1
                  clear H1
                  replace H := Option.bind_eq_some_iff.mp H
                  obtain ⟨⟨t194, t195⟩, A170, H⟩ := H
                  replace H : (some (!t194 && (!t195))) = some r := H
                  have A17 := Aside0.mk A170
                  clear A170
                  obtain rfl := Option.some.inj H
                  have hcz18_0 : wr.cell? ⟨gb188, 0, none⟩ = some (.bool a0_0) := (blk_cell BK188.out 0).trans rfl
                  have hcz18_1 : wr.cell? ⟨gb188, 1, none⟩ = some (.bool a0_1) := (blk_cell BK188.out 1).trans rfl
                  have hcz18_2 : wr.cell? ⟨gb188, 2, none⟩ = some (.bool a0_2) := (blk_cell BK188.out 2).trans rfl
                  have hcz18_3 : wr.cell? ⟨gb188, 3, none⟩ = some (.bool a0_3) := (blk_cell BK188.out 3).trans rfl
                  have hcz18_4 : wr.cell? ⟨gb188, 4, none⟩ = some (.bool a0_4) := (blk_cell BK188.out 4).trans rfl
                  have hcz18_5 : wr.cell? ⟨gb188, 5, none⟩ = some (.bool true) := (blk_cell BK188.out 5).trans rfl
                  have hcz18_6 : wr.cell? ⟨gb188, 6, none⟩ = some (.bool a0_6) := (blk_cell BK188.out 6).trans rfl
                  have hcz18_7 : wr.cell? ⟨gb188, 7, none⟩ = some (.int .i64 (wrap64 ((Go.bits .and .i64 a0_7 1) * 2))) := (blk_cell BK188.out 7).trans rfl
                  have hcz18_8 : wr.cell? ⟨gb188, 8, none⟩ = some (.bool true) := (blk_cell BK188.out 8).trans rfl
                  have hcz18_9 : wr.cell? ⟨gb188, 9, none⟩ = some (.bool a0_9) := (blk_cell BK188.out 9).trans rfl
                  have hcz18_10 : wr.cell? ⟨gb188, 10, none⟩ = some (.int .i64 0) := (blk_cell BK188.out 10).trans rfl
                  have hcz18_11 : wr.cell? ⟨gb188, 11, none⟩ = some (.slice A0_11 l0_11.length c0_11) := (blk_cell BK188.out 11).trans rfl
                  have hfz18_0 := blk_frozen BK188.out 0
                  have hfz18_1 := blk_frozen BK188.out 1
                  have hfz18_2 := blk_frozen BK188.out 2
                  have hfz18_3 := blk_frozen BK188.out 3
                  have hfz18_4 := blk_frozen BK188.out 4
                  have hfz18_5 := blk_frozen BK188.out 5
                  have hfz18_6 := blk_frozen BK188.out 6
                  have hfz18_7 := blk_frozen BK188.out 7
                  have hfz18_8 := blk_frozen BK188.out 8
                  have hfz18_9 := blk_frozen BK188.out 9
                  have hfz18_10 := blk_frozen BK188.out 10
                  have hfz18_11 := blk_frozen BK188.out 11
                  obtain ⟨Ao19, co19, eo19⟩ := Kd.R_slice HO_8.out
                  subst eo19
                  go_wp2_with (first | (go_at_call 13; (with_reducible refine (demand_Good.calls k2 a0_0 a0_1 a0_2 a0_3 a0_4 true a0_6 (wrap64 ((Go.bits .and .i64 a0_7 1) * 2)) true a0_9 0 _ _ l0_11 _ _ x8_2 true _ ?side1 ?side2 ?side3 ?side4 A15.out).mono ?_); (case side1 => repeat (first | exact (Kd.C_below HR0_11.out HB.out) | (with_reducible refine Kd.C_alloc ?_ _) | (with_reducible refine Kd.C_drewN ?_ _) | (with_reducible refine Kd.C_drew ?_))); (case side2 => exact HC0_11.out); (case side3 => repeat (first | exact (Kd.R_reads' HO_8.out).2.2 | (with_reducible refine Kd.C_alloc ?_ _) | (with_reducible refine Kd.C_drewN ?_ _) | (with_reducible refine Kd.C_drew ?_))); (case side4 => exact (Kd.R_reads' HO_8.out).2.1); rintro e w20 ⟨rfl, hb⟩; have n0_ := Aside0.mk (Kd.R_below (by (with_reducible repeat (first | apply Kd.R_alloc | apply Kd.R_drewN | apply Kd.R_drew)); exact HO_8.out) hb); have n1_ := Aside0.mk (blk_below (g := gb188) (o := .cells #[.bool a0_0, .bool a0_1, .bool a0_2, .bool a0_3, .bool a0_4, .bool true, .bool a0_6, .int .i64 (wrap64 ((Go.bits .and .i64 a0_7 1) * 2)), .bool true, .bool a0_9, .int .i64 0, .slice A0_11 l0_11.length c0_11] 26 (0, 0)) (by (with_reducible repeat (first | refine blk_drewN ?_ _ | refine blk_drew ?_ | refine blk_alloc ?_ _)); exact BK188.out) hb); have n2_ := Aside0.mk (below_step (by repeat (first | (with_reducible first | exact HB.out | apply below_alloc | apply pw_below_drewN | apply below_drew1 | refine below_set ?_ GE188.out) | exact HB.out)) hb); clear HO_8; clear BK188; clear HB; have HO_8 := n0_; have BK188 := n1_; have HB := n2_; clear n0_ n1_ n2_; (try clear hb); (try clear hb2); (try clear hk); (try clear hi); have hcz21_0 : w20.cell? ⟨gb188, 0, none⟩ = some (.bool a0_0) := (blk_cell BK188.out 0).trans rfl; have hcz21_1 : w20.cell? ⟨gb188, 1, none⟩ = some (.bool a0_1) := (blk_cell BK188.out 1).trans rfl; have hcz21_2 : w20.cell? ⟨gb188, 2, none⟩ = some (.bool a0_2) := (blk_cell BK188.out 2).trans rfl; have hcz21_3 : w20.cell? ⟨gb188, 3, none⟩ = some (.bool a0_3) := (blk_cell BK188.out 3).trans rfl; have hcz21_4 : w20.cell? ⟨gb188, 4, none⟩ = some (.bool a0_4) := (blk_cell BK188.out 4).trans rfl; have hcz21_5 : w20.cell? ⟨gb188, 5, none⟩ = some (.bool true) := (blk_cell BK188.out 5).trans rfl; have hcz21_6 : w20.cell? ⟨gb188, 6, none⟩ = some (.bool a0_6) := (blk_cell BK188.out 6).trans rfl; have hcz21_7 : w20.cell? ⟨gb188, 7, none⟩ = some (.int .i64 (wrap64 ((Go.bits .and .i64 a0_7 1) * 2))) := (blk_cell BK188.out 7).trans rfl; have hcz21_8 : w20.cell? ⟨gb188, 8, none⟩ = some (.bool true) := (blk_cell BK188.out 8).trans rfl; have hcz21_9 : w20.cell? ⟨gb188, 9, none⟩ = some (.bool a0_9) := (blk_cell BK188.out 9).trans rfl; have hcz21_10 : w20.cell? ⟨gb188, 10, none⟩ = some (.int .i64 0) := (blk_cell BK188.out 10).trans rfl; have hcz21_11 : w20.cell? ⟨gb188, 11, none⟩ = some (.slice A0_11 l0_11.length c0_11) := (blk_cell BK188.out 11).trans rfl; have hfz21_0 := blk_frozen BK188.out 0; have hfz21_1 := blk_frozen BK188.out 1; have hfz21_2 := blk_frozen BK188.out 2; have hfz21_3 := blk_frozen BK188.out 3; have hfz21_4 := blk_frozen BK188.out 4; have hfz21_5 := blk_frozen BK188.out 5; have hfz21_6 := blk_frozen BK188.out 6; have hfz21_7 := blk_frozen BK188.out 7; have hfz21_8 := blk_frozen BK188.out 8; have hfz21_9 := blk_frozen BK188.out 9; have hfz21_10 := blk_frozen BK188.out 10; have hfz21_11 := blk_frozen BK188.out 11) | (go_at_call 15; (with_reducible refine (demand_Of.calls k2 a0_0 a0_1 a0_2 a0_3 a0_4 true a0_6 (wrap64 ((Go.bits .and .i64 a0_7 1) * 2)) true a0_9 0 _ _ l0_11 _ _ x8_2 false a2 t194 t195 _ ?side1 ?side2 ?side3 ?side4 A17.out).mono ?_); (case side1 => repeat (first | exact (Kd.C_below HR0_11.out HB.out) | (with_reducible refine Kd.C_alloc ?_ _) | (with_reducible refine Kd.C_drewN ?_ _) | (with_reducible refine Kd.C_drew ?_))); (case side2 => exact HC0_11.out); (case side3 => repeat (first | exact (Kd.R_reads' HO_8.out).2.2 | (with_reducible refine Kd.C_alloc ?_ _) | (with_reducible refine Kd.C_drewN ?_ _) | (with_reducible refine Kd.C_drew ?_))); (case side4 => exact (Kd.R_reads' HO_8.out).2.1); rintro e w22 ⟨rfl, hb⟩; have n0_ := Aside0.mk (Kd.R_below (by (with_reducible repeat (first | apply Kd.R_alloc | apply Kd.R_drewN | apply Kd.R_drew)); exact HO_8.out) hb); have n1_ := Aside0.mk (blk_below (g := gb188) (o := .cells #[.bool a0_0, .bool a0_1, .bool a0_2, .bool a0_3, .bool a0_4, .bool true, .bool a0_6, .int .i64 (wrap64 ((Go.bits .and .i64 a0_7 1) * 2)), .bool true, .bool a0_9, .int .i64 0, .slice A0_11 l0_11.length c0_11] 26 (0, 0)) (by (with_reducible repeat (first | refine blk_drewN ?_ _ | refine blk_drew ?_ | refine blk_alloc ?_ _)); exact BK188.out) hb); have n2_ := Aside0.mk (below_step (by repeat (first | (with_reducible first | exact HB.out | apply below_alloc | apply pw_below_drewN | apply below_drew1 | refine below_set ?_ GE188.out) | exact HB.out)) hb); clear HO_8; clear BK188; clear HB; have HO_8 := n0_; have BK188 := n1_; have HB := n2_; clear n0_ n1_ n2_; (try clear hb); (try clear hb2); (try clear hk); (try clear hi)))
                  go_ret
                  exact ⟨by first | rfl | (simp [errW_none, errW_some] <;> rfl) | (simp [*, errW_none, errW_some] <;> rfl), by repeat (first | (with_reducible first | exact HB.out | apply below_alloc | apply pw_below_drewN | apply below_drew1 | refine below_set ?_ GE188.out) | exact HB.out)⟩
                · replace c16 := Bool.eq_false_iff.mpr c16
                  subst c16
                  have H1 : (some false) = some r := by rw [if_neg (show ¬ (false = true) by decide)] at H; exact H
                  clear H
                  have H := H1
                  clear H1
                  obtain rfl := Option.some.inj H
                  have hcz23_0 : wr.cell? ⟨gb188, 0, none⟩ = some (.bool a0_0) := (blk_cell BK188.out 0).trans rfl
                  have hcz23_1 : wr.cell? ⟨gb188, 1, none⟩ = some (.bool a0_1) := (blk_cell BK188.out 1).trans rfl
                  have hcz23_2 : wr.cell? ⟨gb188, 2, none⟩ = some (.bool a0_2) := (blk_cell BK188.out 2).trans rfl
                  have hcz23_3 : wr.cell? ⟨gb188, 3, none⟩ = some (.bool a0_3) := (blk_cell BK188.out 3).trans rfl
                  have hcz23_4 : wr.cell? ⟨gb188, 4, none⟩ = some (.bool a0_4) := (blk_cell BK188.out 4).trans rfl
                  have hcz23_5 : wr.cell? ⟨gb188, 5, none⟩ = some (.bool true) := (blk_cell BK188.out 5).trans rfl
                  have hcz23_6 : wr.cell? ⟨gb188, 6, none⟩ = some (.bool a0_6) := (blk_cell BK188.out 6).trans rfl
                  have hcz23_7 : wr.cell? ⟨gb188, 7, none⟩ = some (.int .i64 (wrap64 ((Go.bits .and .i64 a0_7 1) * 2))) := (blk_cell BK188.out 7).trans rfl
                  have hcz23_8 : wr.cell? ⟨gb188, 8, none⟩ = some (.bool true) := (blk_cell BK188.out 8).trans rfl
                  have hcz23_9 : wr.cell? ⟨gb188, 9, none⟩ = some (.bool a0_9) := (blk_cell BK188.out 9).trans rfl
                  have hcz23_10 : wr.cell? ⟨gb188, 10, none⟩ = some (.int .i64 0) := (blk_cell BK188.out 10).trans rfl
                  have hcz23_11 : wr.cell? ⟨gb188, 11, none⟩ = some (.slice A0_11 l0_11.length c0_11) := (blk_cell BK188.out 11).trans rfl
                  have hfz23_0 := blk_frozen BK188.out 0
                  have hfz23_1 := blk_frozen BK188.out 1
                  have hfz23_2 := blk_frozen BK188.out 2
                  have hfz23_3 := blk_frozen BK188.out 3
                  have hfz23_4 := blk_frozen BK188.out 4
                  have hfz23_5 := blk_frozen BK188.out 5
                  have hfz23_6 := blk_frozen BK188.out 6
                  have hfz23_7 := blk_frozen BK188.out 7
                  have hfz23_8 := blk_frozen BK188.out 8
                  have hfz23_9 := blk_frozen BK188.out 9
                  have hfz23_10 := blk_frozen BK188.out 10
                  have hfz23_11 := blk_frozen BK188.out 11
                  obtain ⟨Ao24, co24, eo24⟩ := Kd.R_slice HO_8.out
                  subst eo24
                  go_wp2_with (first | (go_at_call 13; (with_reducible refine (demand_Good.calls k2 a0_0 a0_1 a0_2 a0_3 a0_4 true a0_6 (wrap64 ((Go.bits .and .i64 a0_7 1) * 2)) true a0_9 0 _ _ l0_11 _ _ x8_2 false _ ?side1 ?side2 ?side3 ?side4 A15.out).mono ?_); (case side1 => repeat (first | exact (Kd.C_below HR0_11.out HB.out) | (with_reducible refine Kd.C_alloc ?_ _) | (with_reducible refine Kd.C_drewN ?_ _) | (with_reducible refine Kd.C_drew ?_))); (case side2 => exact HC0_11.out); (case side3 => repeat (first | exact (Kd.R_reads' HO_8.out).2.2 | (with_reducible refine Kd.C_alloc ?_ _) | (with_reducible refine Kd.C_drewN ?_ _) | (with_reducible refine Kd.C_drew ?_))); (case side4 => exact (Kd.R_reads' HO_8.out).2.1); rintro e w25 ⟨rfl, hb⟩; have n0_ := Aside0.mk (Kd.R_below (by (with_reducible repeat (first | apply Kd.R_alloc | apply Kd.R_drewN | apply Kd.R_drew)); exact HO_8.out) hb); have n1_ := Aside0.mk (blk_below (g := gb188) (o := .cells #[.bool a0_0, .bool a0_1, .bool a0_2, .bool a0_3, .bool a0_4, .bool true, .bool a0_6, .int .i64 (wrap64 ((Go.bits .and .i64 a0_7 1) * 2)), .bool true, .bool a0_9, .int .i64 0, .slice A0_11 l0_11.length c0_11] 26 (0, 0)) (by (with_reducible repeat (first | refine blk_drewN ?_ _ | refine blk_drew ?_ | refine blk_alloc ?_ _)); exact BK188.out) hb); have n2_ := Aside0.mk (below_step (by repeat (first | (with_reducible first | exact HB.out | apply below_alloc | apply pw_below_drewN | apply below_drew1 | refine below_set ?_ GE188.out) | exact HB.out)) hb); clear HO_8; clear BK188; clear HB; have HO_8 := n0_; have BK188 := n1_; have HB := n2_; clear n0_ n1_ n2_; (try clear hb); (try clear hb2); (try clear hk); (try clear hi)))
                  go_ret
                  exact ⟨by first | rfl | (simp [errW_none, errW_some] <;> rfl) | (simp [*, errW_none, errW_some] <;> rfl), by repeat (first | (with_reducible first | exact HB.out | apply below_alloc | apply pw_below_drewN | apply below_drew1 | refine below_set ?_ GE188.out) | exact HB.out)⟩
              · replace c14 := Bool.eq_false_iff.mpr c14
                subst c14
                have H1 : (some false) = some r := by rw [if_neg (show ¬ (false = true) by decide)] at H; exact H
                clear H
                have H := H1
                clear H1
                obtain rfl := Option.some.inj H
                go_wp2
                go_ret
                exact ⟨by first | rfl | (simp [errW_none, errW_some] <;> rfl) | (simp [*, errW_none, errW_some] <;> rfl), by repeat (first | (with_reducible first | exact HB.out | apply below_alloc | apply pw_below_drewN | apply below_drew1 | refine below_set ?_ GE188.out) | exact HB.out)⟩

/-! ### record_Parse: function 18 -/
def record_Parse.f (l0 : List Int) : Option (Int × Int × Int × Bool) := if (l0.length : Int) = 3 then (if 0 < (l0.length : Int) then (if (rd l0 0) > 7 then (some (0, 0, 0, false)) else (if 1 < (l0.length : Int) then (if 2 < (l0.length : Int) then (some (wrap64 (rd l0 0), wrap64 (rd l0 1), wrap64 (rd l0 2), true)) else (none)) else (none))) else (none)) else (some (0, 0, 0, false))
def record_Parse.T3 : Bool × List (List Nat × List Nat) := (true, [([], []), ([0], [0]), ([1], [1]), ([2], [2]), ([], []), ([4], [4]), ([5], [5]), ([6], [6]), ([], []), ([8], [8]), ([9], [9]), ([10], [10]), ([3, 7, 11], [3, 7, 11]), ([12, 0, 1, 2, 3, 4, 5, 6, 7, 8, 9, 10, 11, 12], [12]), ([13, 0, 1, 2, 3, 4, 5, 6, 7, 8, 9, 10, 11, 12, 13], [])])
def record_Parse.B3 : List Nat := [0, 1, 3, 7, 0, 16, 48, 112, 0, 256, 768, 1792, 4095, 8191, 16383]
theorem record_Parse.tab3 : rtab .any (opsOf Try.f18 3) = record_Parse.T3 := by kernel_rfl
theorem record_Parse.bits3 : waitsOk record_Parse.T3.2 record_Parse.B3 = true := by kernel_rfl
set_option maxHeartbeats 8000000 in
set_option maxRecDepth 100000 in
theorem record_Parse.calls (A0 : Option Addr) (c0 : Nat) (l0 : List Int) (r1 : Int) (r2 : Int) (r3 : Int) (r4 : Bool) (w : World) (hr0 : Kd.C (Kd.int .u8) w A0 l0.length l0) (hc0 : l0.length ≤ c0) (h : record_Parse.f l0 = some (r1, r2, r3, r4)) :
    Calls Try.prog 18 #[.slice A0 l0.length c0] w fun e w' => e = .returned (.tuple #[.agg #[.int .i64 r1, .int .i64 r2, .int .i64 r3], .bool r4]) ∧ Below w.heap.size w w' := by
  have hu46 := Try.underlying46
  have HR0 := Aside0.mk hr0
  have HC0 := Aside0.mk hc0
  clear hr0 hc0
  have HB := Aside0.mk (Below.refl w.heap.size w)
  have H : (if (l0.length : Int) = 3 then (if 0 < (l0.length : Int) then (if (rd l0 0) > 7 then (some (0, 0, 0, false)) else (if 1 < (l0.length : Int) then (if 2 < (l0.length : Int) then (some (wrap64 (rd l0 0), wrap64 (rd l0 1), wrap64 (rd l0 2), true)) else (none)) else (none))) else (none)) else (some (0, 0, 0, false))) = some (r1, r2, r3, r4) := h
  clear h
  by_cases c2 : (l0.length : Int) = 3
  · rw [if_pos c2] at H
    have c2b0 : ((l0.length : Int) == 3) = true := beq_iff_eq.mpr c2
    have c2b1 : ((l0.length : Int) != 3) = false := bne_eq_false_iff_eq.mpr c2
    clear c2
    by_cases c3 : 0 < (l0.length : Int)
    · rw [if_pos c3] at H
      have c3b0 : decide (0 < (l0.length : Int)) = true := decide_eq_true c3
      have c3b1 : decide (0 < l0.length) = true := decide_eq_true (by omega)
      clear c3
      by_cases c4 : (rd l0 0) > 7
      · rw [if_pos c4] at H
        have c4b0 : decide (7 < (rd l0 0)) = true := decide_eq_true c4
        clear c4
        simp only [Option.some.injEq, Prod.mk.injEq] at H
        obtain ⟨rfl, rfl, rfl, rfl⟩ := H
        go_enter Try.func18, Try.ntmps18
        go_wp2_with (first | ((with_reducible refine gate_dst (N := 2) rfl ?_); refine box_event ?hg (N := 2) ?hd (cs := #[.int .i64 0, .int .i64 0, .int .i64 0]) (t := 46) ?hr ?_; (case hd => rfl); (case hg => rfl); (case hr => first | (go_simp; done) | (go_simp; rfl)); intro gb196 hg w5 hbox hb; have n0_ := Aside0.mk (below_step (by repeat (first | (with_reducible first | exact HB.out | apply below_alloc | apply pw_below_drewN | apply below_drew1) | exact HB.out)) hb); have n1_ := Aside0.mk (hbox); have n2_ := Aside0.mk ((by rw [hg]; exact (below_size (by repeat (first | (with_reducible first | exact HB.out | apply below_alloc | apply pw_below_drewN | apply below_drew1) | exact HB.out))) : w.heap.size ≤ gb196)); have n3_ := Aside0.mk ((by rw [hg]; exact (below_size (by repeat (first | (with_reducible first | exact HB.out | apply below_alloc | apply pw_below_drewN | apply below_drew1) | exact HB.out))) : w.heap.size ≤ gb196)); clear HB; have HB := n0_; have BK196 := n1_; have GW196 := n2_; have GE196 := n3_; clear n0_ n1_ n2_ n3_; clear hb hbox hg; have p197 : 0 ≤ (0 : Int) := (by omega); have q197 : 0 < (l0.length : Int) := of_decide_eq_true (by first | (with_reducible assumption) | assumption); obtain ⟨ad197, e197, hx197_0⟩ := Kd.at_int HR0.out 0 p197 q197; cases e197; have qi197 : (0 < l0.length) = True := eq_true (by omega); (try rw [show ((0 : Int)).toNat = 0 from rfl] at hx197_0); (try rw [Addr.add_zero'] at hx197_0); replace hx197_0 := (HB.out.cell (World.block_lt_of_cell? w _ hx197_0)).trans hx197_0; replace p197 := eq_true p197; replace q197 := eq_true q197; have hcz6_0 : w5.cell? ⟨gb196, 0, none⟩ = some (.int .i64 0) := (blk_cell BK196.out 0).trans rfl; have hcz6_1 : w5.cell? ⟨gb196, 1, none⟩ = some (.int .i64 0) := (blk_cell BK196.out 1).trans rfl; have hcz6_2 : w5.cell? ⟨gb196, 2, none⟩ = some (.int .i64 0) := (blk_cell BK196.out 2).trans rfl; have hfz6_0 := blk_frozen BK196.out 0; have hfz6_1 := blk_frozen BK196.out 1; have hfz6_2 := blk_frozen BK196.out 2))
        refine bodyPost_ret (results_ct rfl _ _ gb196 46 #[.int .i64 0, .int .i64 0, .int .i64 0] (0, 0) _ rfl (by (with_reducible repeat (first | refine blk_drewN ?_ _ | refine blk_drew ?_ | refine blk_alloc ?_ _)); refine blk_put (cs := #[.int .i64 0, .int .i64 0, .int .i64 0]) ?_ 2 _ rfl; (with_reducible repeat (first | refine blk_drewN ?_ _ | refine blk_drew ?_ | refine blk_alloc ?_ _)); refine blk_put (cs := #[.int .i64 0, .int .i64 0, .int .i64 0]) ?_ 1 _ rfl; (with_reducible repeat (first | refine blk_drewN ?_ _ | refine blk_drew ?_ | refine blk_alloc ?_ _)); refine blk_put (cs := #[.int .i64 0, .int .i64 0, .int .i64 0]) ?_ 0 _ rfl; (with_reducible repeat (first | refine blk_drewN ?_ _ | refine blk_drew ?_ | refine blk_alloc ?_ _)); exact BK196.out) Try.underlying46 rfl (by kernel_rfl)) rfl ?_
        exact ⟨by first | rfl | (simp [errW_none, errW_some] <;> rfl) | (simp [*, errW_none, errW_some] <;> rfl), by repeat (first | (with_reducible first | exact HB.out | apply below_alloc | apply pw_below_drewN | apply below_drew1 | refine below_set ?_ GE196.out) | exact HB.out)⟩
      · rw [if_neg c4] at H
        have c4b0 : decide (7 < (rd l0 0)) = false := decide_eq_false c4
        clear c4
        by_cases c7 : 1 < (l0.length : Int)
        · rw [if_pos c7] at H
          have c7b0 : decide (1 < (l0.length : Int)) = true := decide_eq_true c7
          have c7b1 : decide (1 < l0.length) = true := decide_eq_true (by omega)
          clear c7
          by_cases c8 : 2 < (l0.length : Int)
          · rw [if_pos c8] at H
            have c8b0 : decide (2 < (l0.length : Int)) = true := decide_eq_true c8
            have c8b1 : decide (2 < l0.length) = true := decide_eq_true (by omega)
            clear c8
            simp only [Option.some.injEq, Prod.mk.injEq] at H
            obtain ⟨rfl, rfl, rfl, rfl⟩ := H
            go_enter Try.func18, Try.ntmps18
            try go_wp2_with (first | ((with_reducible refine gate_dst (N := 2) rfl ?_); refine box_event ?hg (N := 2) ?hd (cs := #[.int .i64 0, .int .i64 0, .int .i64 0]) (t := 46) ?hr ?_; (case hd => rfl); (case hg => rfl); (case hr => first | (go_simp; done) | (go_simp; rfl)); intro gb196 hg w9 hbox hb; have n0_ := Aside0.mk (below_step (by repeat (first | (with_reducible first | exact HB.out | apply below_alloc | apply pw_below_drewN | apply below_drew1) | exact HB.out)) hb); have n1_ := Aside0.mk (hbox); have n2_ := Aside0.mk ((by rw [hg]; exact (below_size (by repeat (first | (with_reducible first | exact HB.out | apply below_alloc | apply pw_below_drewN | apply below_drew1) | exact HB.out))) : w.heap.size ≤ gb196)); have n3_ := Aside0.mk ((by rw [hg]; exact (below_size (by repeat (first | (with_reducible first | exact HB.out | apply below_alloc | apply pw_below_drewN | apply below_drew1) | exact HB.out))) : w.heap.size ≤ gb196)); clear HB; have HB := n0_; have BK196 := n1_; have GW196 := n2_; have GE196 := n3_; clear n0_ n1_ n2_ n3_; clear hb hbox hg; have p197 : 0 ≤ (0 : Int) := (by omega); have q197 : 0 < (l0.length : Int) := of_decide_eq_true (by first | (with_reducible assumption) | assumption); obtain ⟨ad197, e197, hx197_0⟩ := Kd.at_int HR0.out 0 p197 q197; cases e197; have qi197 : (0 < l0.length) = True := eq_true (by omega); (try rw [show ((0 : Int)).toNat = 0 from rfl] at hx197_0); (try rw [Addr.add_zero'] at hx197_0); replace hx197_0 := (HB.out.cell (World.block_lt_of_cell? w _ hx197_0)).trans hx197_0; replace p197 := eq_true p197; replace q197 := eq_true q197))
            have n0_ := Aside0.mk (blk_drew BK196.out)
            have n1_ := Aside0.mk (below_drew1 HB.out)
            clear BK196
            clear HB
            have BK196 := n0_
            have HB := n1_
            clear n0_ n1_
            have p198 : 0 ≤ (0 : Int) := (by omega)
            have q198 : 0 < (l0.length : Int) := of_decide_eq_true (by first | (with_reducible assumption) | assumption)
            obtain ⟨ad198, e198, hx198_0⟩ := Kd.at_int HR0.out 0 p198 q198
            have hw198_0 := hx198_0
            (try rw [show ((0 : Int)).toNat = 0 from rfl] at hw198_0)
            (try rw [show 0 * 1 = 0 from rfl] at hw198_0)
            (try rw [Addr.add_zero'] at hw198_0)
            obtain rfl : ad197 = ad198 := (by injection e198)
            have qi198 : (0 < l0.length) = True := eq_true (by omega)
            (try rw [show ((0 : Int)).toNat = 0 from rfl] at hx198_0)
            (try rw [Addr.add_zero'] at hx198_0)
            replace hx198_0 := (HB.out.cell (World.block_lt_of_cell? w _ hx198_0)).trans hx198_0
            replace p198 := eq_true p198
            replace q198 := eq_true q198
            have p199 : 0 ≤ (1 : Int) := (by omega)
            have q199 : 1 < (l0.length : Int) := of_decide_eq_true (by first | (with_reducible assumption) | assumption)
            obtain ⟨ad199, e199, hx199_0⟩ := Kd.at_int HR0.out 1 p199 q199
            have hw199_0 := hx199_0
            (try rw [show ((1 : Int)).toNat = 1 from rfl] at hw199_0)
            (try rw [show 1 * 1 = 1 from rfl] at hw199_0)
            (try simp only [Nat.reduceMul, Nat.reduceEqDiff, Go.Addr.add, ↓reduceIte] at hw199_0)
            obtain rfl : ad197 = ad199 := (by injection e199)
            (try simp only [show (1 : Int).toNat = 1 from rfl, Nat.reduceMul, Nat.reduceEqDiff, Go.Addr.add, ↓reduceIte] at hx199_0)
            have qi199 : (1 < l0.length) = True := eq_true (by omega)
            (try rw [show ((1 : Int)).toNat = 1 from rfl] at hx199_0)
            replace hx199_0 := (HB.out.cell (World.block_lt_of_cell? w _ hx199_0)).trans hx199_0
            replace p199 := eq_true p199
            replace q199 := eq_true q199
            have p200 : 0 ≤ (2 : Int) := (by omega)
            have q200 : 2 < (l0.length : Int) := of_decide_eq_true (by first | (with_reducible assumption) | assumption)
            obtain ⟨ad200, e200, hx200_0⟩ := Kd.at_int HR0.out 2 p200 q200
            have hw200_0 := hx200_0
            (try rw [show ((2 : Int)).toNat = 2 from rfl] at hw200_0)
            (try rw [show 2 * 1 = 2 from rfl] at hw200_0)
            (try simp only [Nat.reduceMul, Nat.reduceEqDiff, Go.Addr.add, ↓reduceIte] at hw200_0)
            obtain rfl : ad197 = ad200 := (by injection e200)
            (try simp only [show (2 : Int).toNat = 2 from rfl, Nat.reduceMul, Nat.reduceEqDiff, Go.Addr.add, ↓reduceIte] at hx200_0)
            have qi200 : (2 < l0.length) = True := eq_true (by omega)
            (try rw [show ((2 : Int)).toNat = 2 from rfl] at hx200_0)
            replace hx200_0 := (HB.out.cell (World.block_lt_of_cell? w _ hx200_0)).trans hx200_0
            replace p200 := eq_true p200
            replace q200 := eq_true q200
            refine start_ (n := 15) (S := fun w' => w'.cell? ad197 = some (.int .u8 (rd l0 0)) ∧ w'.cell? ⟨ad197.block, ad197.off + 1, none⟩ = some (.int .u8 (rd l0 1)) ∧ w'.cell? ⟨ad197.block, ad197.off + 2, none⟩ = some (.int .u8 (rd l0 2))) (ds := []) #[false, false, false, false, false, false, false, false, false, false, false, false, false, false, false] (by kernel_rfl) rfl rfl ⟨((HB.out.cell (World.block_lt_of_cell? w _ hw198_0)).trans hw198_0), ((HB.out.cell (World.block_lt_of_cell? w _ hw199_0)).trans hw199_0), ((HB.out.cell (World.block_lt_of_cell? w _ hw200_0)).trans hw200_0)⟩ (fun hHeld => ?_); refine with_tabW record_Parse.tab3 record_Parse.bits3 (fun HT_ HW_ => ?_)
            generalize w9.drew = w10 at BK196 HB hx198_0 hx199_0 hx200_0 hHeld ⊢
            refine pure_ (i := 0) (N := some 14) (v := ?_) (a' := ?_) #[true, false, false, false, false, false, false, false, false, false, false, false, false, false, false] rfl rfl (any_of HT_.out (by kernel_rfl)) (fun _ _ _ h => h) (Or.inl ⟨by rfl, ?_⟩) ?_ ?_
            rotate_left
            · intro w'
              go_simp
              with_reducible rfl
            rotate_left
            · simp only [Act.put, List.setIfInBounds_toArray, List.set_cons_zero, List.set_cons_succ, i64_w, i32_w]
              rfl
            refine pure_ (i := 1) (N := some 15) (v := ?_) (a' := ?_) #[true, true, false, false, false, false, false, false, false, false, false, false, false, false, false] rfl rfl (any_of HT_.out (by kernel_rfl)) (fun _ _ _ h => h) (Or.inl ⟨by rfl, ?_⟩) ?_ ?_
            rotate_left
            · intro w'
              go_simp
              with_reducible rfl
            rotate_left
            · simp only [Act.put, List.setIfInBounds_toArray, List.set_cons_zero, List.set_cons_succ, i64_w, i32_w]
              rfl
            refine pure_ (i := 4) (N := some 18) (v := ?_) (a' := ?_) #[true, true, false, false, true, false, false, false, false, false, false, false, false, false, false] rfl rfl (any_of HT_.out (by kernel_rfl)) (fun _ _ _ h => h) (Or.inl ⟨by rfl, ?_⟩) ?_ ?_
            rotate_left
            · intro w'
              go_simp
              with_reducible rfl
            rotate_left
            · simp only [Act.put, List.setIfInBounds_toArray, List.set_cons_zero, List.set_cons_succ, i64_w, i32_w]
              rfl
            refine pure_ (i := 5) (N := some 19) (v := ?_) (a' := ?_) #[true, true, false, false, true, true, false, false, false, false, false, false, false, false, false] rfl rfl (any_of HT_.out (by kernel_rfl)) (fun _ _ _ h => h) (Or.inl ⟨by rfl, ?_⟩) ?_ ?_
            rotate_left
            · intro w'
              go_simp
              with_reducible rfl
            rotate_left
            · simp only [Act.put, List.setIfInBounds_toArray, List.set_cons_zero, List.set_cons_succ, i64_w, i32_w]
              rfl
            refine pure_ (i := 8) (N := some 22) (v := ?_) (a' := ?_) #[true, true, false, false, true, true, false, false, true, false, false, false, false, false, false] rfl rfl (any_of HT_.out (by kernel_rfl)) (fun _ _ _ h => h) (Or.inl ⟨by rfl, ?_⟩) ?_ ?_
            rotate_left
            · intro w'
              go_simp
              with_reducible rfl
            rotate_left
            · simp only [Act.put, List.setIfInBounds_toArray, List.set_cons_zero, List.set_cons_succ, i64_w, i32_w]
              rfl
            refine pure_ (i := 9) (N := some 23) (v := ?_) (a' := ?_) #[true, true, false, false, true, true, false, false, true, true, false, false, false, false, false] rfl rfl (any_of HT_.out (by kernel_rfl)) (fun _ _ _ h => h) (Or.inl ⟨by rfl, ?_⟩) ?_ ?_
            rotate_left
            · intro w'
              go_simp
              with_reducible rfl
            rotate_left
            · simp only [Act.put, List.setIfInBounds_toArray, List.set_cons_zero, List.set_cons_succ, i64_w, i32_w]
              rfl
            refine take_ (i := 2) (N := some 16) (v := ?_) (a' := ?_) #[true, true, true, false, true, true, false, false, true, true, false, false, false, false, false] rfl rfl (take_ofW HT_.out HW_.out (by kernel_rfl)) (fun _ _ _ h => h) (Or.inl ⟨by rfl, ?_⟩) hHeld ?_ ?_
            rotate_left
            · rintro w' ⟨s0, s1, s2⟩
              go_simp
              with_reducible rfl
            rotate_left
            · simp only [Act.put, List.setIfInBounds_toArray, List.set_cons_zero, List.set_cons_succ, i64_w, i32_w]
              rfl
            refine pure_ (i := 3) (N := some 17) (v := ?_) (a' := ?_) #[true, true, true, true, true, true, false, false, true, true, false, false, false, false, false] rfl rfl (any_of HT_.out (by kernel_rfl)) (fun _ _ _ h => h) (Or.inl ⟨by rfl, ?_⟩) ?_ ?_
            rotate_left
            · intro w'
              go_simp
              with_reducible rfl
            rotate_left
            · simp only [Act.put, List.setIfInBounds_toArray, List.set_cons_zero, List.set_cons_succ, i64_w, i32_w]
              rfl
            refine take_ (i := 6) (N := some 20) (v := ?_) (a' := ?_) #[true, true, true, true, true, true, true, false, true, true, false, false, false, false, false] rfl rfl (take_ofW HT_.out HW_.out (by kernel_rfl)) (fun _ _ _ h => h) (Or.inl ⟨by rfl, ?_⟩) hHeld ?_ ?_
            rotate_left
            · rintro w' ⟨s0, s1, s2⟩
              go_simp
              with_reducible rfl
            rotate_left
            · simp only [Act.put, List.setIfInBounds_toArray, List.set_cons_zero, List.set_cons_succ, i64_w, i32_w]
              rfl
            refine pure_ (i := 7) (N := some 21) (v := ?_) (a' := ?_) #[true, true, true, true, true, true, true, true, true, true, false, false, false, false, false] rfl rfl (any_of HT_.out (by kernel_rfl)) (fun _ _ _ h => h) (Or.inl ⟨by rfl, ?_⟩) ?_ ?_
            rotate_left
            · intro w'
              go_simp
              with_reducible rfl
            rotate_left
            · simp only [Act.put, List.setIfInBounds_toArray, List.set_cons_zero, List.set_cons_succ, i64_w, i32_w]
              rfl
            refine take_ (i := 10) (N := some 24) (v := ?_) (a' := ?_) #[true, true, true, true, true, true, true, true, true, true, true, false, false, false, false] rfl rfl (take_ofW HT_.out HW_.out (by kernel_rfl)) (fun _ _ _ h => h) (Or.inl ⟨by rfl, ?_⟩) hHeld ?_ ?_
            rotate_left
            · rintro w' ⟨s0, s1, s2⟩
              go_simp
              with_reducible rfl
            rotate_left
            · simp only [Act.put, List.setIfInBounds_toArray, List.set_cons_zero, List.set_cons_succ, i64_w, i32_w]
              rfl
            refine pure_ (i := 11) (N := some 25) (v := ?_) (a' := ?_) #[true, true, true, true, true, true, true, true, true, true, true, true, false, false, false] rfl rfl (any_of HT_.out (by kernel_rfl)) (fun _ _ _ h => h) (Or.inl ⟨by rfl, ?_⟩) ?_ ?_
            rotate_left
            · intro w'
              go_simp
              with_reducible rfl
            rotate_left
            · simp only [Act.put, List.setIfInBounds_toArray, List.set_cons_zero, List.set_cons_succ, i64_w, i32_w]
              rfl
            refine pure_ (i := 12) (N := some 26) (v := ?_) (a' := ?_) #[true, true, true, true, true, true, true, true, true, true, true, true, true, false, false] rfl rfl (any_of HT_.out (by kernel_rfl)) (fun _ _ _ h => h) (Or.inl ⟨by rfl, ?_⟩) ?_ ?_
            rotate_left
            · intro w'
              go_simp
              with_reducible rfl
            rotate_left
            · simp only [Act.put, List.setIfInBounds_toArray, List.set_cons_zero, List.set_cons_succ, i64_w, i32_w]
              rfl
            refine one_ (i := 13) (N := none) #[true, true, true, true, true, true, true, true, true, true, true, true, true, true, false] rfl rfl (one_of HT_.out (by kernel_rfl)) (by decide) (fun K hK => ?_)
            have hs11 : w10.cell? ⟨gb196, 0, none⟩ = some (.int .i64 0) := (blk_cell BK196.out 0).trans rfl
            have hfs11 := blk_frozen BK196.out 0
            have hs12 : w10.cell? ⟨gb196, 1, none⟩ = some (.int .i64 0) := (blk_cell BK196.out 1).trans rfl
            have hfs12 := blk_frozen BK196.out 1
            have hs13 : w10.cell? ⟨gb196, 2, none⟩ = some (.int .i64 0) := (blk_cell BK196.out 2).trans rfl
            have hfs13 := blk_frozen BK196.out 2
            refine skip_ (w1 := ?_) (by rfl) rfl ?_ ?_
            rotate_left
            · go_simp
              rfl
            refine hK.out _ _ ⟨((cell_far (p := ⟨gb196, _, none⟩) (by first | exact Nat.ne_of_lt (Nat.lt_of_lt_of_le (by have := World.block_lt_of_cell? _ _ hw198_0; first | rwa [add_block] at this | exact this) GW196.out) | (rw [add_block]; exact Nat.ne_of_lt (Nat.lt_of_lt_of_le (by have := World.block_lt_of_cell? _ _ hw198_0; first | rwa [add_block] at this | exact this) GW196.out)) | (show (Addr.add _ _).block ≠ _; rw [add_block]; exact Nat.ne_of_lt (Nat.lt_of_lt_of_le (by have := World.block_lt_of_cell? _ _ hw198_0; first | rwa [add_block] at this | exact this) GW196.out)) | (dsimp only; exact Nat.ne_of_lt (Nat.lt_of_lt_of_le (by have := World.block_lt_of_cell? _ _ hw198_0; first | rwa [add_block] at this | exact this) GW196.out))) _).trans (((cell_far (p := ⟨gb196, _, none⟩) (by first | exact Nat.ne_of_lt (Nat.lt_of_lt_of_le (by have := World.block_lt_of_cell? _ _ hw198_0; first | rwa [add_block] at this | exact this) GW196.out) | (rw [add_block]; exact Nat.ne_of_lt (Nat.lt_of_lt_of_le (by have := World.block_lt_of_cell? _ _ hw198_0; first | rwa [add_block] at this | exact this) GW196.out)) | (show (Addr.add _ _).block ≠ _; rw [add_block]; exact Nat.ne_of_lt (Nat.lt_of_lt_of_le (by have := World.block_lt_of_cell? _ _ hw198_0; first | rwa [add_block] at this | exact this) GW196.out)) | (dsimp only; exact Nat.ne_of_lt (Nat.lt_of_lt_of_le (by have := World.block_lt_of_cell? _ _ hw198_0; first | rwa [add_block] at this | exact this) GW196.out))) _).trans (((cell_far (p := ⟨gb196, _, none⟩) (by first | exact Nat.ne_of_lt (Nat.lt_of_lt_of_le (by have := World.block_lt_of_cell? _ _ hw198_0; first | rwa [add_block] at this | exact this) GW196.out) | (rw [add_block]; exact Nat.ne_of_lt (Nat.lt_of_lt_of_le (by have := World.block_lt_of_cell? _ _ hw198_0; first | rwa [add_block] at this | exact this) GW196.out)) | (show (Addr.add _ _).block ≠ _; rw [add_block]; exact Nat.ne_of_lt (Nat.lt_of_lt_of_le (by have := World.block_lt_of_cell? _ _ hw198_0; first | rwa [add_block] at this | exact this) GW196.out)) | (dsimp only; exact Nat.ne_of_lt (Nat.lt_of_lt_of_le (by have := World.block_lt_of_cell? _ _ hw198_0; first | rwa [add_block] at this | exact this) GW196.out))) _).trans (hHeld.1)))))), ((cell_far (p := ⟨gb196, _, none⟩) (by first | exact Nat.ne_of_lt (Nat.lt_of_lt_of_le (by have := World.block_lt_of_cell? _ _ hw199_0; first | rwa [add_block] at this | exact this) GW196.out) | (rw [add_block]; exact Nat.ne_of_lt (Nat.lt_of_lt_of_le (by have := World.block_lt_of_cell? _ _ hw199_0; first | rwa [add_block] at this | exact this) GW196.out)) | (show (Addr.add _ _).block ≠ _; rw [add_block]; exact Nat.ne_of_lt (Nat.lt_of_lt_of_le (by have := World.block_lt_of_cell? _ _ hw199_0; first | rwa [add_block] at this | exact this) GW196.out)) | (dsimp only; exact Nat.ne_of_lt (Nat.lt_of_lt_of_le (by have := World.block_lt_of_cell? _ _ hw199_0; first | rwa [add_block] at this | exact this) GW196.out))) _).trans (((cell_far (p := ⟨gb196, _, none⟩) (by first | exact Nat.ne_of_lt (Nat.lt_of_lt_of_le (by have := World.block_lt_of_cell? _ _ hw199_0; first | rwa [add_block] at this | exact this) GW196.out) | (rw [add_block]; exact Nat.ne_of_lt (Nat.lt_of_lt_of_le (by have := World.block_lt_of_cell? _ _ hw199_0; first | rwa [add_block] at this | exact this) GW196.out)) | (show (Addr.add _ _).block ≠ _; rw [add_block]; exact Nat.ne_of_lt (Nat.lt_of_lt_of_le (by have := World.block_lt_of_cell? _ _ hw199_0; first | rwa [add_block] at this | exact this) GW196.out)) | (dsimp only; exact Nat.ne_of_lt (Nat.lt_of_lt_of_le (by have := World.block_lt_of_cell? _ _ hw199_0; first | rwa [add_block] at this | exact this) GW196.out))) _).trans (((cell_far (p := ⟨gb196, _, none⟩) (by first | exact Nat.ne_of_lt (Nat.lt_of_lt_of_le (by have := World.block_lt_of_cell? _ _ hw199_0; first | rwa [add_block] at this | exact this) GW196.out) | (rw [add_block]; exact Nat.ne_of_lt (Nat.lt_of_lt_of_le (by have := World.block_lt_of_cell? _ _ hw199_0; first | rwa [add_block] at this | exact this) GW196.out)) | (show (Addr.add _ _).block ≠ _; rw [add_block]; exact Nat.ne_of_lt (Nat.lt_of_lt_of_le (by have := World.block_lt_of_cell? _ _ hw199_0; first | rwa [add_block] at this | exact this) GW196.out)) | (dsimp only; exact Nat.ne_of_lt (Nat.lt_of_lt_of_le (by have := World.block_lt_of_cell? _ _ hw199_0; first | rwa [add_block] at this | exact this) GW196.out))) _).trans (hHeld.2.1)))))), ((cell_far (p := ⟨gb196, _, none⟩) (by first | exact Nat.ne_of_lt (Nat.lt_of_lt_of_le (by have := World.block_lt_of_cell? _ _ hw200_0; first | rwa [add_block] at this | exact this) GW196.out) | (rw [add_block]; exact Nat.ne_of_lt (Nat.lt_of_lt_of_le (by have := World.block_lt_of_cell? _ _ hw200_0; first | rwa [add_block] at this | exact this) GW196.out)) | (show (Addr.add _ _).block ≠ _; rw [add_block]; exact Nat.ne_of_lt (Nat.lt_of_lt_of_le (by have := World.block_lt_of_cell? _ _ hw200_0; first | rwa [add_block] at this | exact this) GW196.out)) | (dsimp only; exact Nat.ne_of_lt (Nat.lt_of_lt_of_le (by have := World.block_lt_of_cell? _ _ hw200_0; first | rwa [add_block] at this | exact this) GW196.out))) _).trans (((cell_far (p := ⟨gb196, _, none⟩) (by first | exact Nat.ne_of_lt (Nat.lt_of_lt_of_le (by have := World.block_lt_of_cell? _ _ hw200_0; first | rwa [add_block] at this | exact this) GW196.out) | (rw [add_block]; exact Nat.ne_of_lt (Nat.lt_of_lt_of_le (by have := World.block_lt_of_cell? _ _ hw200_0; first | rwa [add_block] at this | exact this) GW196.out)) | (show (Addr.add _ _).block ≠ _; rw [add_block]; exact Nat.ne_of_lt (Nat.lt_of_lt_of_le (by have := World.block_lt_of_cell? _ _ hw200_0; first | rwa [add_block] at this | exact this) GW196.out)) | (dsimp only; exact Nat.ne_of_lt (Nat.lt_of_lt_of_le (by have := World.block_lt_of_cell? _ _ hw200_0; first | rwa [add_block] at this | exact this) GW196.out))) _).trans (((cell_far (p := ⟨gb196, _, none⟩) (by first | exact Nat.ne_of_lt (Nat.lt_of_lt_of_le (by have := World.block_lt_of_cell? _ _ hw200_0; first | rwa [add_block] at this | exact this) GW196.out) | (rw [add_block]; exact Nat.ne_of_lt (Nat.lt_of_lt_of_le (by have := World.block_lt_of_cell? _ _ hw200_0; first | rwa [add_block] at this | exact this) GW196.out)) | (show (Addr.add _ _).block ≠ _; rw [add_block]; exact Nat.ne_of_lt (Nat.lt_of_lt_of_le (by have := World.block_lt_of_cell? _ _ hw200_0; first | rwa [add_block] at this | exact this) GW196.out)) | (dsimp only; exact Nat.ne_of_lt (Nat.lt_of_lt_of_le (by have := World.block_lt_of_cell? _ _ hw200_0; first | rwa [add_block] at this | exact this) GW196.out))) _).trans (hHeld.2.2))))))⟩ (fun hHeld => ?_)
            clear hK K
            refine pure_ (i := 14) (N := some 3) (v := ?_) (a' := ?_) #[true, true, true, true, true, true, true, true, true, true, true, true, true, true, true] rfl rfl (any_of HT_.out (by kernel_rfl)) (fun _ _ _ h => h) (Or.inl ⟨by rfl, ?_⟩) ?_ ?_
            rotate_left
            · intro w'
              go_simp
              with_reducible rfl
            rotate_left
            · simp only [Act.put, List.setIfInBounds_toArray, List.set_cons_zero, List.set_cons_succ, i64_w, i32_w]
              rfl
            refine done_ (done_of HT_.out (by kernel_rfl)) ?_
            try go_wp2
            refine bodyPost_ret (results_ct rfl _ _ gb196 46 #[.int .i64 (wrap64 (rd l0 0)), .int .i64 (wrap64 (rd l0 1)), .int .i64 (wrap64 (rd l0 2))] (0, 0) _ rfl (by (with_reducible repeat (first | refine blk_drewN ?_ _ | refine blk_drew ?_ | refine blk_alloc ?_ _)); refine blk_put (cs := #[.int .i64 (wrap64 (rd l0 0)), .int .i64 (wrap64 (rd l0 1)), .int .i64 0]) ?_ 2 _ rfl; (with_reducible repeat (first | refine blk_drewN ?_ _ | refine blk_drew ?_ | refine blk_alloc ?_ _)); refine blk_put (cs := #[.int .i64 (wrap64 (rd l0 0)), .int .i64 0, .int .i64 0]) ?_ 1 _ rfl; (with_reducible repeat (first | refine blk_drewN ?_ _ | refine blk_drew ?_ | refine blk_alloc ?_ _)); refine blk_put (cs := #[.int .i64 0, .int .i64 0, .int .i64 0]) ?_ 0 _ rfl; (with_reducible repeat (first | refine blk_drewN ?_ _ | refine blk_drew ?_ | refine blk_alloc ?_ _)); exact BK196.out) Try.underlying46 rfl (by kernel_rfl)) rfl ?_
            exact ⟨by first | rfl | (simp [errW_none, errW_some] <;> rfl) | (simp [*, errW_none, errW_some] <;> rfl), by repeat (first | (with_reducible first | exact HB.out | apply below_alloc | apply pw_below_drewN | apply below_drew1 | refine below_set ?_ GE196.out) | exact HB.out)⟩
          · rw [if_neg c8] at H
            exact absurd H (by simp)
        · rw [if_neg c7] at H
          exact absurd H (by simp)
    · rw [if_neg c3] at H
      exact absurd H (by simp)
  · rw [if_neg c2] at H
    have c2b0 : ((l0.length : Int) == 3) = false := beq_eq_false_iff_ne.mpr c2
    have c2b1 : ((l0.length : Int) != 3) = true := bne_iff_ne.mpr c2
    simp only [Option.some.injEq, Prod.mk.injEq] at H
    obtain ⟨rfl, rfl, rfl, rfl⟩ := H
    go_enter Try.func18, Try.ntmps18
    go_wp2_with (first | ((with_reducible refine gate_dst (N := 2) rfl ?_); refine box_event ?hg (N := 2) ?hd (cs := #[.int .i64 0, .int .i64 0, .int .i64 0]) (t := 46) ?hr ?_; (case hd => rfl); (case hg => rfl); (case hr => first | (go_simp; done) | (go_simp; rfl)); intro gb196 hg w14 hbox hb; have n0_ := Aside0.mk (below_step (by repeat (first | (with_reducible first | exact HB.out | apply below_alloc | apply pw_below_drewN | apply below_drew1) | exact HB.out)) hb); have n1_ := Aside0.mk (hbox); have n2_ := Aside0.mk ((by rw [hg]; exact (below_size (by repeat (first | (with_reducible first | exact HB.out | apply below_alloc | apply pw_below_drewN | apply below_drew1) | exact HB.out))) : w.heap.size ≤ gb196)); have n3_ := Aside0.mk ((by rw [hg]; exact (below_size (by repeat (first | (with_reducible first | exact HB.out | apply below_alloc | apply pw_below_drewN | apply below_drew1) | exact HB.out))) : w.heap.size ≤ gb196)); clear HB; have HB := n0_; have BK196 := n1_; have GW196 := n2_; have GE196 := n3_; clear n0_ n1_ n2_ n3_; clear hb hbox hg; have hcz15_0 : w14.cell? ⟨gb196, 0, none⟩ = some (.int .i64 0) := (blk_cell BK196.out 0).trans rfl; have hcz15_1 : w14.cell? ⟨gb196, 1, none⟩ = some (.int .i64 0) := (blk_cell BK196.out 1).trans rfl; have hcz15_2 : w14.cell? ⟨gb196, 2, none⟩ = some (.int .i64 0) := (blk_cell BK196.out 2).trans rfl; have hfz15_0 := blk_frozen BK196.out 0; have hfz15_1 := blk_frozen BK196.out 1; have hfz15_2 := blk_frozen BK196.out 2))
    refine bodyPost_ret (results_ct rfl _ _ gb196 46 #[.int .i64 0, .int .i64 0, .int .i64 0] (0, 0) _ rfl (by (with_reducible repeat (first | refine blk_drewN ?_ _ | refine blk_drew ?_ | refine blk_alloc ?_ _)); refine blk_put (cs := #[.int .i64 0, .int .i64 0, .int .i64 0]) ?_ 2 _ rfl; (with_reducible repeat (first | refine blk_drewN ?_ _ | refine blk_drew ?_ | refine blk_alloc ?_ _)); refine blk_put (cs := #[.int .i64 0, .int .i64 0, .int .i64 0]) ?_ 1 _ rfl; (with_reducible repeat (first | refine blk_drewN ?_ _ | refine blk_drew ?_ | refine blk_alloc ?_ _)); refine blk_put (cs := #[.int .i64 0, .int .i64 0, .int .i64 0]) ?_ 0 _ rfl; (with_reducible repeat (first | refine blk_drewN ?_ _ | refine blk_drew ?_ | refine blk_alloc ?_ _)); exact BK196.out) Try.underlying46 rfl (by kernel_rfl)) rfl ?_
    exact ⟨by first | rfl | (simp [errW_none, errW_some] <;> rfl) | (simp [*, errW_none, errW_some] <;> rfl), by repeat (first | (with_reducible first | exact HB.out | apply below_alloc | apply pw_below_drewN | apply below_drew1 | refine below_set ?_ GE196.out) | exact HB.out)⟩

-- NOT PRINTED: function 29 (record_mask)

-- record_Of: the session's own text

/-! ### record_Print: function 22 -/
def record_Print.l0 : Nat → List Int → List Int → Int → Int → Option (List Int)
  | 0, _, _, _, _ => none
  | k + 1, x3, x13, x14, x15 => if x15 < x14 then (if 0 ≤ x15 then (if x15 < (x13.length : Int) then (if (rd x13 x15) = (Go.bits .and .i64 (rd x13 x15) 255) then (if x15 = 0 then (if (rd x13 x15) > 7 then (some ([] : List Int)) else (if x15 < (x3.length : Int) then (record_Print.l0 k (x3.set (x15 : Int).toNat ((rd x13 x15) % 256)) x13 x14 (wrap64 (x15 + 1))) else (none))) else (if x15 < (x3.length : Int) then (record_Print.l0 k (x3.set (x15 : Int).toNat ((rd x13 x15) % 256)) x13 x14 (wrap64 (x15 + 1))) else (none))) else (some ([] : List Int))) else (none)) else (none)) else (some x3)
def record_Print.f (k : Nat) (a0_0 : Int) (a0_1 : Int) (a0_2 : Int) : Option (List Int) := if 3 ≤ 281474976710656 then ((some (([a0_0, a0_1, a0_2] : List Int) : List Int)).bind fun y205 => (record_Print.l0 k (List.replicate 3 0) y205 (y205.length : Int) 0)) else (none)
theorem record_Print.mono_l : ∀ k, (∀ y0 y1 y2 y3, LeO (record_Print.l0 k y0 y1 y2 y3) (record_Print.l0 (k + 1) y0 y1 y2 y3))
  | 0 => fun _ _ _ _ r h => by simp [record_Print.l0] at h
  | k + 1 => by
    have ih0 := record_Print.mono_l k
    · intro y0 y1 y2 y3
      unfold record_Print.l0
      repeat' first
      | (with_reducible exact ih0 _ _ _ _)
      | (with_reducible exact LeO.refl _)
      | (with_reducible exact LeO.none _)
      | (with_reducible refine LeO.ite ?_ ?_)
      | (with_reducible refine LeO.bind ?_ (fun _ => ?_))
      | exact ih0 _ _ _ _
      | exact LeO.none _
      | refine LeO.ite ?_ ?_
      | refine LeO.bind ?_ (fun _ => ?_)
theorem record_Print.mono : ∀ a0 a1 a2 k, LeO (record_Print.f k a0 a1 a2) (record_Print.f (k + 1) a0 a1 a2) := by
  intro a0 a1 a2 k
  have ih0 := record_Print.mono_l k
  unfold record_Print.f
  repeat' first
      | (with_reducible exact ih0 _ _ _ _)
      | (with_reducible exact LeO.refl _)
      | (with_reducible exact LeO.none _)
      | (with_reducible refine LeO.ite ?_ ?_)
      | (with_reducible refine LeO.bind ?_ (fun _ => ?_))
      | exact ih0 _ _ _ _
      | exact LeO.none _
      | refine LeO.ite ?_ ?_
      | refine LeO.bind ?_ (fun _ => ?_)
set_option maxHeartbeats 8000000 in
set_option maxRecDepth 100000 in
theorem record_Print.calls (k : Nat) (a0_0 : Int) (a0_1 : Int) (a0_2 : Int) (r : List Int) (w : World) (h : record_Print.f k a0_0 a0_1 a0_2 = some r) :
    Calls Try.prog 22 #[.agg #[.int .i64 a0_0, .int .i64 a0_1, .int .i64 a0_2]] w fun e w' => ∃ v0_ : Value, e = .returned (v0_) ∧ Kd.R (Kd.int .u8) 5 w' w.heap.size (fun _ => True) v0_ r ∧ Below w.heap.size w w' := by
  have hu46 := Try.underlying46
  have HB := Aside0.mk (Below.refl w.heap.size w)
  have H : (if 3 ≤ 281474976710656 then ((some (([a0_0, a0_1, a0_2] : List Int) : List Int)).bind fun y205 => (record_Print.l0 k (List.replicate 3 0) y205 (y205.length : Int) 0)) else (none)) = some r := h
  clear h
  by_cases c2 : 3 ≤ 281474976710656
  · rw [if_pos c2] at H
    have c2b0 := eq_true c2
    have c2b1 : decide (3 ≤ 281474976710656) = true := decide_eq_true c2
    clear c2
    obtain ⟨y202, hy202⟩ : ∃ y_ : List Int, y_ = (List.replicate 3 0) := ⟨_, rfl⟩
    replace H : ((some (([a0_0, a0_1, a0_2] : List Int) : List Int)).bind fun y205 => (record_Print.l0 k y202 y205 (y205.length : Int) 0)) = some r := by first | (rw [hy202]; with_reducible exact H) | (have H2_ := (Option.bind_some _ _).symm.trans H; rw [hy202]; with_reducible exact H2_) | (have H2_ := (Option.bind_some _ _).symm.trans H; with_reducible exact H2_) | with_reducible exact H | (rw [hy202]; exact H) | exact H
    have Ny202 := Aside0.mk hy202
    clear hy202
    obtain ⟨y205, hy205⟩ : ∃ y_ : List Int, y_ = (([a0_0, a0_1, a0_2] : List Int)) := ⟨_, rfl⟩
    replace H : (record_Print.l0 k y202 y205 (y205.length : Int) 0) = some r := by first | (rw [hy205]; with_reducible exact H) | (have H2_ := (Option.bind_some _ _).symm.trans H; rw [hy205]; with_reducible exact H2_) | (have H2_ := (Option.bind_some _ _).symm.trans H; with_reducible exact H2_) | with_reducible exact H | (rw [hy205]; exact H) | exact H
    have Ny205 := Aside0.mk hy205
    clear hy205
    have H' := Aside0.mk H
    clear H
    go_enter Try.func22, Try.ntmps22
    go_wp2_with (first | ((with_reducible refine gate_dst (N := 1) rfl ?_); refine box_event ?hg (N := 1) ?hd (cs := #[.int .i64 a0_0, .int .i64 a0_1, .int .i64 a0_2]) (t := 46) ?hr ?_; (case hd => rfl); (case hg => rfl); (case hr => first | (go_simp; done) | (go_simp; rfl)); intro gb201 hg w3 hbox hb; have n0_ := Aside0.mk (below_step (by repeat (first | (with_reducible first | exact HB.out | apply below_alloc | apply pw_below_drewN | apply below_drew1) | exact HB.out)) hb); have n1_ := Aside0.mk (hbox); have n2_ := Aside0.mk ((by rw [hg]; exact (below_size (by repeat (first | (with_reducible first | exact HB.out | apply below_alloc | apply pw_below_drewN | apply below_drew1) | exact HB.out))) : w.heap.size ≤ gb201)); have n3_ := Aside0.mk ((by rw [hg]; exact (below_size (by repeat (first | (with_reducible first | exact HB.out | apply below_alloc | apply pw_below_drewN | apply below_drew1) | exact HB.out))) : w.heap.size ≤ gb201)); clear HB; have HB := n0_; have BK201 := n1_; have GW201 := n2_; have GE201 := n3_; clear n0_ n1_ n2_ n3_; clear hb hbox hg) | ((with_reducible refine gate_dst (N := 6) rfl ?_); refine Kd.R_make (Kd.int .u8) _ 5 rfl (N := 6) rfl 47 _ _ rfl 3 rfl rfl Try.underlying47 (.int .u8 0) 1 info5 rfl (by decide) (by omega) 0 (ok := fun _ => True) (okp := fun _ => True) rfl (fun _ hk => hk) trivial (by omega) (by omega) (Below.refl _ _) (Nat.le_refl _) ?_; intro v203 w4 ho5 hb hg_ hnew_; clear hg_ hnew_; (first | rw [← Ny202.out] at ho5 | (simp only [Int.reduceToNat] at ho5; rw [← Ny202.out] at ho5)); have n0_ := Aside0.mk (Kd.R_lower ho5 (below_size (by repeat (first | (with_reducible first | exact HB.out | apply below_alloc | apply pw_below_drewN | apply below_drew1 | refine below_set ?_ GE201.out) | exact HB.out)))); have n1_ := Aside0.mk (blk_below (g := gb201) (o := .cells #[.int .i64 a0_0, .int .i64 a0_1, .int .i64 a0_2] 46 (0, 0)) (by (with_reducible repeat (first | refine blk_drewN ?_ _ | refine blk_drew ?_ | refine blk_alloc ?_ _)); exact BK201.out) hb); have n2_ := Aside0.mk (below_step (by repeat (first | (with_reducible first | exact HB.out | apply below_alloc | apply pw_below_drewN | apply below_drew1 | refine below_set ?_ GE201.out) | exact HB.out)) hb); clear BK201; clear HB; have HO204 := n0_; have BK201 := n1_; have HB := n2_; clear n0_ n1_ n2_; clear hb ho5; have hcz6_0 : w4.cell? ⟨gb201, 0, none⟩ = some (.int .i64 a0_0) := (blk_cell BK201.out 0).trans rfl; have hcz6_1 : w4.cell? ⟨gb201, 1, none⟩ = some (.int .i64 a0_1) := (blk_cell BK201.out 1).trans rfl; have hcz6_2 : w4.cell? ⟨gb201, 2, none⟩ = some (.int .i64 a0_2) := (blk_cell BK201.out 2).trans rfl; have hfz6_0 := blk_frozen BK201.out 0; have hfz6_1 := blk_frozen BK201.out 1; have hfz6_2 := blk_frozen BK201.out 2) | ((with_reducible refine gate_dst (N := 13) rfl ?_); refine Kd.R_lit (Kd.int .i64) _ 3 ?hg (N := 13) ?hd (xs := ([a0_0, a0_1, a0_2] : List Int)) (inner := [.int .i64 a0_0, .int .i64 a0_1, .int .i64 a0_2]) (ok := fun _ => True) (okp := fun _ => True) ?hr ?hp (fun _ hk => hk) trivial (Below.refl _ _) (Nat.le_refl _) (by simp) ?_; (case hd => rfl); (case hg => rfl); (case hr => first | (go_simp; done) | (go_simp; rfl)); (case hp => exact (Reps.one (show Kd.M (Kd.int .i64) _ _ _ a0_0 [.int .i64 a0_0] from rfl) (Reps.one (show Kd.M (Kd.int .i64) _ _ _ a0_1 [.int .i64 a0_1] from rfl) (Reps.one (show Kd.M (Kd.int .i64) _ _ _ a0_2 [.int .i64 a0_2] from rfl) (Reps.none _ _))))); intro v206 w7 ho8 hb hg_ hnew_; clear hg_ hnew_; (first | rw [← Ny205.out] at ho8 | (simp only [Int.reduceToNat] at ho8; rw [← Ny205.out] at ho8)); have n0_ := Aside0.mk (Kd.R_below (by (with_reducible repeat (first | apply Kd.R_alloc | apply Kd.R_drewN | apply Kd.R_drew)); exact HO204.out) hb); have n1_ := Aside0.mk (Kd.R_lower ho8 (below_size (by repeat (first | (with_reducible first | exact HB.out | apply below_alloc | apply pw_below_drewN | apply below_drew1 | refine below_set ?_ GE201.out) | exact HB.out)))); have n2_ := Aside0.mk (blk_below (g := gb201) (o := .cells #[.int .i64 a0_0, .int .i64 a0_1, .int .i64 a0_2] 46 (0, 0)) (by (with_reducible repeat (first | refine blk_drewN ?_ _ | refine blk_drew ?_ | refine blk_alloc ?_ _)); exact BK201.out) hb); have n3_ := Aside0.mk (below_step (by repeat (first | (with_reducible first | exact HB.out | apply below_alloc | apply pw_below_drewN | apply below_drew1 | refine below_set ?_ GE201.out) | exact HB.out)) hb); clear HO204; clear BK201; clear HB; have HO204 := n0_; have HO207 := n1_; have BK201 := n2_; have HB := n3_; clear n0_ n1_ n2_ n3_; clear hb ho8; obtain ⟨Ao9, co9, eo9⟩ := Kd.R_slice HO207.out; subst eo9))
    go_loopg [15] k (fun kq v15 w' => ∃ (x3_1 : List Int) (x15_1 : Int), v15 = .int .i64 x15_1 ∧ Aside0 (record_Print.l0 kq x3_1 y205 (y205.length : Int) x15_1 = some r) ∧ Aside0 (kq ≤ k) ∧ Aside0 (Kd.R (Kd.int .u8) 5 w' w.heap.size (fun _ => True) v203 x3_1) ∧ Aside0 (Kd.R (Kd.int .i64) 3 w' w.heap.size (fun _ => True) (.slice Ao9 y205.length co9) y205) ∧ Aside0 (w'.heap[gb201]? = some (.cells #[.int .i64 a0_0, .int .i64 a0_1, .int .i64 a0_2] 46 (0, 0))) ∧ Aside0 (Below w.heap.size w w'))
    case atStart => exact ⟨(y202), (0), (by first | rfl | (simp; done) | (simp [*]; done)), H', ⟨Nat.le_refl _⟩, ⟨by (with_reducible repeat (first | apply Kd.R_alloc | apply Kd.R_drewN | apply Kd.R_drew)); exact HO204.out⟩, ⟨by (with_reducible repeat (first | apply Kd.R_alloc | apply Kd.R_drewN | apply Kd.R_drew)); exact HO207.out⟩, ⟨by (with_reducible repeat (first | refine blk_drewN ?_ _ | refine blk_drew ?_ | refine blk_alloc ?_ _)); exact BK201.out⟩, ⟨by repeat (first | (with_reducible first | exact HB.out | apply below_alloc | apply pw_below_drewN | apply below_drew1 | refine below_set ?_ GE201.out) | exact HB.out)⟩⟩
    case round =>
      clear H'
      try clear c2
      try clear c2b0
      try clear c2b1
      try clear p2
      try clear hcz6_0
      try clear hcz6_1
      try clear hcz6_2
      try clear hfz6_0
      try clear hfz6_1
      try clear hfz6_2
      obtain ⟨x3_1, x15_1, rfl, HA, HK1, HO_3, HO_13, BK201, HB⟩ := hrel
      cases gk with
      | zero => exact absurd HA.out (by simp [record_Print.l0])
      | succ k1 =>
        have H := HA.out
        clear HA
        simp only [record_Print.l0] at H
        by_cases c10 : x15_1 < (y205.length : Int)
        · rw [if_pos c10] at H
          have c10b0 : decide (x15_1 < (y205.length : Int)) = true := decide_eq_true c10
          clear c10
          by_cases c11 : 0 ≤ x15_1
          · rw [if_pos c11] at H
            have c11b0 : decide (0 ≤ x15_1) = true := decide_eq_true c11
            clear c11
            by_cases c12 : x15_1 < (y205.length : Int)
            · rw [if_pos c12] at H
              have c12b0 : decide (x15_1 < (y205.length : Int)) = true := decide_eq_true c12
              clear c12
              by_cases c13 : (rd y205 x15_1) = (Go.bits .and .i64 (rd y205 x15_1) 255)
              · rw [if_pos c13] at H
                have c13b0 : ((rd y205 x15_1) == (Go.bits .and .i64 (rd y205 x15_1) 255)) = true := beq_iff_eq.mpr c13
                have c13b1 : ((rd y205 x15_1) != (Go.bits .and .i64 (rd y205 x15_1) 255)) = false := bne_eq_false_iff_eq.mpr c13
                clear c13
                by_cases c14 : x15_1 = 0
                · rw [if_pos c14] at H
                  have c14b0 : (x15_1 == 0) = true := beq_iff_eq.mpr c14
                  have c14b1 : (x15_1 != 0) = false := bne_eq_false_iff_eq.mpr c14
                  clear c14
                  by_cases c15 : (rd y205 x15_1) > 7
                  · rw [if_pos c15] at H
                    have c15b0 : decide (7 < (rd y205 x15_1)) = true := decide_eq_true c15
                    clear c15
                    obtain rfl := Option.some.inj H
                    have p208 : 0 ≤ (x15_1 : Int) := of_decide_eq_true (by first | (with_reducible assumption) | assumption)
                    have q208 : x15_1 < (y205.length : Int) := of_decide_eq_true (by first | (with_reducible assumption) | assumption)
                    obtain ⟨ad208, e208, hx208_0⟩ := Kd.at_int (Kd.R_reads' HO_13.out).2.2 x15_1 p208 q208
                    cases e208
                    replace p208 := eq_true p208
                    replace q208 := eq_true q208
                    go_wp2
                    go_ret
                    exact ⟨_, by first | rfl | (simp [errW_none, errW_some] <;> rfl) | (simp [*, errW_none, errW_some] <;> rfl), by first | exact Kd.R_nil _ _ _ _ _ | exact Kd.N_nil _ _ _ _ _ | exact Kd.V_nil _ _ _ _ _ | exact Kd.Q_nil _ _ _ _ _ | exact Kd.S_nil _ _ _ _ _, by repeat (first | (with_reducible first | exact HB.out | apply below_alloc | apply pw_below_drewN | apply below_drew1 | refine below_set ?_ GE201.out) | exact HB.out)⟩
                  · rw [if_neg c15] at H
                    have c15b0 : decide (7 < (rd y205 x15_1)) = false := decide_eq_false c15
                    clear c15
                    by_cases c16 : x15_1 < (x3_1.length : Int)
                    · rw [if_pos c16] at H
                      have c16b0 : decide (x15_1 < (x3_1.length : Int)) = true := decide_eq_true c16
                      clear c16
                      obtain ⟨y209, hy209⟩ : ∃ y_ : List Int, y_ = (x3_1.set (x15_1 : Int).toNat ((rd y205 x15_1) % 256)) := ⟨_, rfl⟩
                      replace H : (record_Print.l0 k1 y209 y205 (y205.length : Int) (wrap64 (x15_1 + 1))) = some r := by first | (rw [hy209]; with_reducible exact H) | (have H2_ := (Option.bind_some _ _).symm.trans H; rw [hy209]; with_reducible exact H2_) | (have H2_ := (Option.bind_some _ _).symm.trans H; with_reducible exact H2_) | with_reducible exact H | (rw [hy209]; exact H) | exact H
                      have Ny209 := Aside0.mk hy209
                      clear hy209
                      have H' := Aside0.mk H
                      clear H
                      have p208 : 0 ≤ (x15_1 : Int) := of_decide_eq_true (by first | (with_reducible assumption) | assumption)
                      have q208 : x15_1 < (y205.length : Int) := of_decide_eq_true (by first | (with_reducible assumption) | assumption)
                      obtain ⟨ad208, e208, hx208_0⟩ := Kd.at_int (Kd.R_reads' HO_13.out).2.2 x15_1 p208 q208
                      cases e208
                      replace p208 := eq_true p208
                      replace q208 := eq_true q208
                      have p17 : 0 ≤ (x15_1 : Int) := of_decide_eq_true (by first | (with_reducible assumption) | assumption)
                      have q17 : (x15_1 : Int) < ((x3_1.length : Int) : Int) := of_decide_eq_true (by first | (with_reducible assumption) | assumption)
                      obtain ⟨go17, co17, eo17, gb17, gl17, cl17, HG17⟩ := Kd.R_form HO_3.out (by omega)
                      (first | cases eo17 | (injection eo17 with ea_ en_ ec_; (first | subst ea_ | (injection ea_ with ea_; subst ea_)); subst ec_; clear en_))
                      have GB17 := Aside0.mk gb17
                      have GG17 := Aside0.mk HG17
                      clear gb17 gl17 HG17
                      obtain ⟨hx17_0, hf17_0⟩ := Kd.R_celln 0 HO_3.out (x15_1 : Int) p17 q17
                      replace p17 := eq_true p17
                      replace q17 := eq_true q17
                      have HP18 := Kd.R_putg HO_3.out (x15_1 : Int) ((rd y205 x15_1) % 256)
                      go_wp2_with (first | ((with_reducible refine gate_store (t := 5) (p := 36) rfl ?_); refine store_event (t := 5) (p := 36) (v := ?vo_w19) (w1 := (wr.setCell ⟨go17, (x15_1 : Int).toNat, none⟩ (.int .u8 ((rd y205 x15_1) % 256)))) ?hg ?ho ?hn ?hr ?_; (case ho => rfl); (case hg => rfl); (case hn => rfl); (case hr => first | (go_simp; done) | (go_simp; rfl)); intro w19 hw; have hg : wr.grownBy w19 (some go17) := (by rw [hw]; exact HP18.2); have hp_ : Kd.R (Kd.int .u8) 5 w19 w.heap.size (fun _ => True) (.slice (some ⟨go17, 0, none⟩) x3_1.length co17) y209 := (by rw [hw, Ny209.out]; exact HP18.1); clear HP18; have n0_ := Aside0.mk (hp_); have n1_ := Aside0.mk (Kd.R_over' (v := (.slice (some ⟨go17, 0, none⟩) x3_1.length co17)) (by (with_reducible repeat (first | apply Kd.R_alloc | apply Kd.R_drewN | apply Kd.R_drew)); exact HO_13.out) (Kd.R_typed HO_3.out) (by decide) hg); have n2_ := Aside0.mk (blk_grown (g := gb201) (o := .cells #[.int .i64 a0_0, .int .i64 a0_1, .int .i64 a0_2] 46 (0, 0)) (by (with_reducible repeat (first | refine blk_drewN ?_ _ | refine blk_drew ?_ | refine blk_alloc ?_ _)); exact BK201.out) hg (Kd.R_ne HO_3.out BK201.out (by decide))); have n3_ := Aside0.mk ((by rw [hw]; exact below_set (HB.out) GB17.out : Below w.heap.size w w19)); clear HO_3; clear HO_13; clear BK201; clear HB; have HO_3 := n0_; have HO_13 := n1_; have BK201 := n2_; have HB := n3_; clear n0_ n1_ n2_ n3_; clear hg hw hp_))
                      go_roundg k1
                      case measure => have := HK1.out; omega
                      case rel => exact ⟨(y209), (wrap64 (x15_1 + 1)), (by first | rfl | (simp; done) | (simp [*]; done)), H', ⟨by have := HK1.out; omega⟩, ⟨by (with_reducible repeat (first | apply Kd.R_alloc | apply Kd.R_drewN | apply Kd.R_drew)); exact HO_3.out⟩, ⟨by (with_reducible repeat (first | apply Kd.R_alloc | apply Kd.R_drewN | apply Kd.R_drew)); exact HO_13.out⟩, ⟨by (with_reducible repeat (first | refine blk_drewN ?_ _ | refine blk_drew ?_ | refine blk_alloc ?_ _)); exact BK201.out⟩, ⟨by repeat (first | (with_reducible first | exact HB.out | apply below_alloc | apply pw_below_drewN | apply below_drew1 | refine below_set ?_ GE201.out) | exact HB.out)⟩⟩
                    · rw [if_neg c16] at H
                      exact absurd H (by simp)
                · rw [if_neg c14] at H
                  have c14b0 : (x15_1 == 0) = false := beq_eq_false_iff_ne.mpr c14
                  have c14b1 : (x15_1 != 0) = true := bne_iff_ne.mpr c14
                  by_cases c20 : x15_1 < (x3_1.length : Int)
                  · rw [if_pos c20] at H
                    have c20b0 : decide (x15_1 < (x3_1.length : Int)) = true := decide_eq_true c20
                    clear c20
                    obtain ⟨y210, hy210⟩ : ∃ y_ : List Int, y_ = (x3_1.set (x15_1 : Int).toNat ((rd y205 x15_1) % 256)) := ⟨_, rfl⟩
                    replace H : (record_Print.l0 k1 y210 y205 (y205.length : Int) (wrap64 (x15_1 + 1))) = some r := by first | (rw [hy210]; with_reducible exact H) | (have H2_ := (Option.bind_some _ _).symm.trans H; rw [hy210]; with_reducible exact H2_) | (have H2_ := (Option.bind_some _ _).symm.trans H; with_reducible exact H2_) | with_reducible exact H | (rw [hy210]; exact H) | exact H
                    have Ny210 := Aside0.mk hy210
                    clear hy210
                    have H' := Aside0.mk H
                    clear H
                    have p208 : 0 ≤ (x15_1 : Int) := of_decide_eq_true (by first | (with_reducible assumption) | assumption)
                    have q208 : x15_1 < (y205.length : Int) := of_decide_eq_true (by first | (with_reducible assumption) | assumption)
                    obtain ⟨ad208, e208, hx208_0⟩ := Kd.at_int (Kd.R_reads' HO_13.out).2.2 x15_1 p208 q208
                    cases e208
                    replace p208 := eq_true p208
                    replace q208 := eq_true q208
                    have p21 : 0 ≤ (x15_1 : Int) := of_decide_eq_true (by first | (with_reducible assumption) | assumption)
                    have q21 : (x15_1 : Int) < ((x3_1.length : Int) : Int) := of_decide_eq_true (by first | (with_reducible assumption) | assumption)
                    obtain ⟨go21, co21, eo21, gb21, gl21, cl21, HG21⟩ := Kd.R_form HO_3.out (by omega)
                    (first | cases eo21 | (injection eo21 with ea_ en_ ec_; (first | subst ea_ | (injection ea_ with ea_; subst ea_)); subst ec_; clear en_))
                    have GB21 := Aside0.mk gb21
                    have GG21 := Aside0.mk HG21
                    clear gb21 gl21 HG21
                    obtain ⟨hx21_0, hf21_0⟩ := Kd.R_celln 0 HO_3.out (x15_1 : Int) p21 q21
                    replace p21 := eq_true p21
                    replace q21 := eq_true q21
                    have HP22 := Kd.R_putg HO_3.out (x15_1 : Int) ((rd y205 x15_1) % 256)
                    go_wp2_with (first | ((with_reducible refine gate_store (t := 5) (p := 36) rfl ?_); refine store_event (t := 5) (p := 36) (v := ?vo_w23) (w1 := (wr.setCell ⟨go21, (x15_1 : Int).toNat, none⟩ (.int .u8 ((rd y205 x15_1) % 256)))) ?hg ?ho ?hn ?hr ?_; (case ho => rfl); (case hg => rfl); (case hn => rfl); (case hr => first | (go_simp; done) | (go_simp; rfl)); intro w23 hw; have hg : wr.grownBy w23 (some go21) := (by rw [hw]; exact HP22.2); have hp_ : Kd.R (Kd.int .u8) 5 w23 w.heap.size (fun _ => True) (.slice (some ⟨go21, 0, none⟩) x3_1.length co21) y210 := (by rw [hw, Ny210.out]; exact HP22.1); clear HP22; have n0_ := Aside0.mk (hp_); have n1_ := Aside0.mk (Kd.R_over' (v := (.slice (some ⟨go21, 0, none⟩) x3_1.length co21)) (by (with_reducible repeat (first | apply Kd.R_alloc | apply Kd.R_drewN | apply Kd.R_drew)); exact HO_13.out) (Kd.R_typed HO_3.out) (by decide) hg); have n2_ := Aside0.mk (blk_grown (g := gb201) (o := .cells #[.int .i64 a0_0, .int .i64 a0_1, .int .i64 a0_2] 46 (0, 0)) (by (with_reducible repeat (first | refine blk_drewN ?_ _ | refine blk_drew ?_ | refine blk_alloc ?_ _)); exact BK201.out) hg (Kd.R_ne HO_3.out BK201.out (by decide))); have n3_ := Aside0.mk ((by rw [hw]; exact below_set (HB.out) GB21.out : Below w.heap.size w w23)); clear HO_3; clear HO_13; clear BK201; clear HB; have HO_3 := n0_; have HO_13 := n1_; have BK201 := n2_; have HB := n3_; clear n0_ n1_ n2_ n3_; clear hg hw hp_))
                    go_roundg k1
                    case measure => have := HK1.out; omega
                    case rel => exact ⟨(y210), (wrap64 (x15_1 + 1)), (by first | rfl | (simp; done) | (simp [*]; done)), H', ⟨by have := HK1.out; omega⟩, ⟨by (with_reducible repeat (first | apply Kd.R_alloc | apply Kd.R_drewN | apply Kd.R_drew)); exact HO_3.out⟩, ⟨by (with_reducible repeat (first | apply Kd.R_alloc | apply Kd.R_drewN | apply Kd.R_drew)); exact HO_13.out⟩, ⟨by (with_reducible repeat (first | refine blk_drewN ?_ _ | refine blk_drew ?_ | refine blk_alloc ?_ _)); exact BK201.out⟩, ⟨by repeat (first | (with_reducible first | exact HB.out | apply below_alloc | apply pw_below_drewN | apply below_drew1 | refine below_set ?_ GE201.out) | exact HB.out)⟩⟩
                  · rw [if_neg c20] at H
                    exact absurd H (by simp)
              · rw [if_neg c13] at H
                have c13b0 : ((rd y205 x15_1) == (Go.bits .and .i64 (rd y205 x15_1) 255)) = false := beq_eq_false_iff_ne.mpr c13
                have c13b1 : ((rd y205 x15_1) != (Go.bits .and .i64 (rd y205 x15_1) 255)) = true := bne_iff_ne.mpr c13
                obtain rfl := Option.some.inj H
                have p208 : 0 ≤ (x15_1 : Int) := of_decide_eq_true (by first | (with_reducible assumption) | assumption)
                have q208 : x15_1 < (y205.length : Int) := of_decide_eq_true (by first | (with_reducible assumption) | assumption)
                obtain ⟨ad208, e208, hx208_0⟩ := Kd.at_int (Kd.R_reads' HO_13.out).2.2 x15_1 p208 q208
                cases e208
                replace p208 := eq_true p208
                replace q208 := eq_true q208
                go_wp2
                go_ret
                exact ⟨_, by first | rfl | (simp [errW_none, errW_some] <;> rfl) | (simp [*, errW_none, errW_some] <;> rfl), by first | exact Kd.R_nil _ _ _ _ _ | exact Kd.N_nil _ _ _ _ _ | exact Kd.V_nil _ _ _ _ _ | exact Kd.Q_nil _ _ _ _ _ | exact Kd.S_nil _ _ _ _ _, by repeat (first | (with_reducible first | exact HB.out | apply below_alloc | apply pw_below_drewN | apply below_drew1 | refine below_set ?_ GE201.out) | exact HB.out)⟩
            · rw [if_neg c12] at H
              exact absurd H (by simp)
          · rw [if_neg c11] at H
            exact absurd H (by simp)
        · rw [if_neg c10] at H
          have c10b0 : decide (x15_1 < (y205.length : Int)) = false := decide_eq_false c10
          clear c10
          obtain rfl := Option.some.inj H
          go_wp2
          go_ret
          exact ⟨_, by first | rfl | (simp [errW_none, errW_some] <;> rfl) | (simp [*, errW_none, errW_some] <;> rfl), by (with_reducible repeat (first | apply Kd.R_alloc | apply Kd.R_drewN | apply Kd.R_drew)); exact HO_3.out, by repeat (first | (with_reducible first | exact HB.out | apply below_alloc | apply pw_below_drewN | apply below_drew1 | refine below_set ?_ GE201.out) | exact HB.out)⟩
  · rw [if_neg c2] at H
    exact absurd H (by simp)

-- crossbucklaw25_small: the session's own text

end Go.Proofs.Ytjjnfjhhimijmaa.A
