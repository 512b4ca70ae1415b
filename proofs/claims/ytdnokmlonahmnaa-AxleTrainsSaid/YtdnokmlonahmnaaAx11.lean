/- Each function's own law: what the call answers, as a plain Lean function; a text that a program of this session wrote. -/
import Derived.Test.YtdnokmlonahmnaaAx0
import Derived.Test.YtdnokmlonahmnaaAx6
import Derived.Test.YtdnokmlonahmnaaHandAxle
import Derived.Test.YtdnokmlonahmnaaHandSmall11
namespace Go.Proofs.Ytdnokmlonahmnaa.A
open Go.RowKit Go.Proofs.YtdnokmlonahmnaaW.PrintWords Go.Proofs.YtdnokmlonahmnaaW.PrintLast Go.Proofs.YtdnokmlonahmnaaW.PrintMore
attribute [local go_sem] max2_int min2_int max_two min_two max_three min_three max_four min_four   -- for this text's walks alone
set_option linter.unusedVariables false
set_option linter.unusedSimpArgs false

/-! ### crossbucklaw11_AxleTrains: function 13 -/
mutual
def crossbucklaw11_AxleTrains.l0 : Nat → List Int → Bool → Int → Int → Bool → Int → Int → Bool → Option (Bool)
  | 0, _, _, _, _, _, _, _, _ => none
  | k + 1, x1, x5, x6, x8, x263000, x263001, x263002, x263003 => if x8 < (x1.length : Int) then (if 0 ≤ x8 then (if (rd x1 x8) < 1 then (crossbucklaw11_AxleTrains.j1 k x1 x5 x6 x8 true x263000 x263001 x263002 x263003) else (crossbucklaw11_AxleTrains.j1 k x1 x5 x6 x8 (decide ((rd x1 x8) > 64)) x263000 x263001 x263002 x263003)) else (none)) else (if x5 = true then ((axle_Clear.f x263000 x263001 x263002 x263003).bind fun t263 => (some t263)) else (some false))
def crossbucklaw11_AxleTrains.j1 : Nat → List Int → Bool → Int → Int → Bool → Bool → Int → Int → Bool → Option (Bool)
  | 0, _, _, _, _, _, _, _, _, _ => none
  | k + 1, x1, x5, x6, x8, x36, x263000, x263001, x263002, x263003 => if x36 = true then (some x5) else (if 0 ≤ x8 then (if x8 < (x1.length : Int) then ((axle_Step.f x263000 x263001 x263002 x263003 (wrap64 (x6 + (rd x1 x8))) x6).bind fun bt267 => ((axle_Clear.f bt267.1 bt267.2.1 bt267.2.2.1 bt267.2.2.2).bind fun t271 => (if t271 = true then (crossbucklaw11_AxleTrains.j2 k x1 x5 x6 x8 true bt267.1 bt267.2.1 bt267.2.2.1 bt267.2.2.2) else ((axle_On.f bt267.1 bt267.2.1 bt267.2.2.1 bt267.2.2.2).bind fun t272 => (crossbucklaw11_AxleTrains.j2 k x1 x5 x6 x8 (t272 != (rd x1 x8)) bt267.1 bt267.2.1 bt267.2.2.1 bt267.2.2.2))))) else (none)) else (none))
def crossbucklaw11_AxleTrains.j2 : Nat → List Int → Bool → Int → Int → Bool → Bool → Int → Int → Bool → Option (Bool)
  | 0, _, _, _, _, _, _, _, _, _ => none
  | k + 1, x1, x5, x6, x8, x57, x263000, x263001, x263002, x263003 => if x57 = true then (some false) else (if 0 ≤ x8 then (if x8 < (x1.length : Int) then ((axle_Step.f x263000 x263001 x263002 x263003 (wrap64 (x6 + (rd x1 x8))) (wrap64 (x6 + (rd x1 x8)))).bind fun bt275 => ((axle_Clear.f bt275.1 bt275.2.1 bt275.2.2.1 bt275.2.2.2).bind fun t279 => (if t279 = true then (crossbucklaw11_AxleTrains.l0 k x1 x5 (wrap64 (x6 + (rd x1 x8))) (wrap64 (x8 + 1)) bt275.1 bt275.2.1 bt275.2.2.1 bt275.2.2.2) else (some false)))) else (none)) else (none))
end
def crossbucklaw11_AxleTrains.f (k : Nat) (a0 : Int) (l1 : List Int) : Option (Bool) := (crossbucklaw11_small.f).bind fun t257 => (if (l1.length : Int) > 200 then (some t257) else ((axle_Step.f false 0 0 false a0 a0).bind fun bt258 => (crossbucklaw11_AxleTrains.l0 k l1 t257 a0 0 bt258.1 bt258.2.1 bt258.2.2.1 bt258.2.2.2)))
theorem crossbucklaw11_AxleTrains.mono_l : ∀ k, (∀ y0 y1 y2 y3 y4 y5 y6 y7, LeO (crossbucklaw11_AxleTrains.l0 k y0 y1 y2 y3 y4 y5 y6 y7) (crossbucklaw11_AxleTrains.l0 (k + 1) y0 y1 y2 y3 y4 y5 y6 y7)) ∧ (∀ y0 y1 y2 y3 y4 y5 y6 y7 y8, LeO (crossbucklaw11_AxleTrains.j1 k y0 y1 y2 y3 y4 y5 y6 y7 y8) (crossbucklaw11_AxleTrains.j1 (k + 1) y0 y1 y2 y3 y4 y5 y6 y7 y8)) ∧ (∀ y0 y1 y2 y3 y4 y5 y6 y7 y8, LeO (crossbucklaw11_AxleTrains.j2 k y0 y1 y2 y3 y4 y5 y6 y7 y8) (crossbucklaw11_AxleTrains.j2 (k + 1) y0 y1 y2 y3 y4 y5 y6 y7 y8))
  | 0 => ⟨fun _ _ _ _ _ _ _ _ r h => by simp [crossbucklaw11_AxleTrains.l0] at h, fun _ _ _ _ _ _ _ _ _ r h => by simp [crossbucklaw11_AxleTrains.j1] at h, fun _ _ _ _ _ _ _ _ _ r h => by simp [crossbucklaw11_AxleTrains.j2] at h⟩
  | k + 1 => by
    obtain ⟨ih0, ih1, ih2⟩ := crossbucklaw11_AxleTrains.mono_l k
    refine ⟨?_, ?_, ?_⟩
    · intro y0 y1 y2 y3 y4 y5 y6 y7
      unfold crossbucklaw11_AxleTrains.l0
      repeat' first
      | (with_reducible exact ih0 _ _ _ _ _ _ _ _)
      | (with_reducible exact ih1 _ _ _ _ _ _ _ _ _)
      | (with_reducible exact ih2 _ _ _ _ _ _ _ _ _)
      | (with_reducible exact LeO.refl _)
      | (with_reducible exact LeO.none _)
      | (with_reducible refine LeO.ite ?_ ?_)
      | (with_reducible refine LeO.bind ?_ (fun _ => ?_))
      | exact ih0 _ _ _ _ _ _ _ _
      | exact ih1 _ _ _ _ _ _ _ _ _
      | exact ih2 _ _ _ _ _ _ _ _ _
      | exact LeO.none _
      | refine LeO.ite ?_ ?_
      | refine LeO.bind ?_ (fun _ => ?_)
    · intro y0 y1 y2 y3 y4 y5 y6 y7 y8
      unfold crossbucklaw11_AxleTrains.j1
      repeat' first
      | (with_reducible exact ih0 _ _ _ _ _ _ _ _)
      | (with_reducible exact ih1 _ _ _ _ _ _ _ _ _)
      | (with_reducible exact ih2 _ _ _ _ _ _ _ _ _)
      | (with_reducible exact LeO.refl _)
      | (with_reducible exact LeO.none _)
      | (with_reducible refine LeO.ite ?_ ?_)
      | (with_reducible refine LeO.bind ?_ (fun _ => ?_))
      | exact ih0 _ _ _ _ _ _ _ _
      | exact ih1 _ _ _ _ _ _ _ _ _
      | exact ih2 _ _ _ _ _ _ _ _ _
      | exact LeO.none _
      | refine LeO.ite ?_ ?_
      | refine LeO.bind ?_ (fun _ => ?_)
    · intro y0 y1 y2 y3 y4 y5 y6 y7 y8
      unfold crossbucklaw11_AxleTrains.j2
      repeat' first
      | (with_reducible exact ih0 _ _ _ _ _ _ _ _)
      | (with_reducible exact ih1 _ _ _ _ _ _ _ _ _)
      | (with_reducible exact ih2 _ _ _ _ _ _ _ _ _)
      | (with_reducible exact LeO.refl _)
      | (with_reducible exact LeO.none _)
      | (with_reducible refine LeO.ite ?_ ?_)
      | (with_reducible refine LeO.bind ?_ (fun _ => ?_))
      | exact ih0 _ _ _ _ _ _ _ _
      | exact ih1 _ _ _ _ _ _ _ _ _
      | exact ih2 _ _ _ _ _ _ _ _ _
      | exact LeO.none _
      | refine LeO.ite ?_ ?_
      | refine LeO.bind ?_ (fun _ => ?_)
theorem crossbucklaw11_AxleTrains.mono : ∀ a0 a1 k, LeO (crossbucklaw11_AxleTrains.f k a0 a1) (crossbucklaw11_AxleTrains.f (k + 1) a0 a1) := by
  intro a0 a1 k
  obtain ⟨ih0, ih1, ih2⟩ := crossbucklaw11_AxleTrains.mono_l k
  unfold crossbucklaw11_AxleTrains.f
  repeat' first
      | (with_reducible exact ih0 _ _ _ _ _ _ _ _)
      | (with_reducible exact ih1 _ _ _ _ _ _ _ _ _)
      | (with_reducible exact ih2 _ _ _ _ _ _ _ _ _)
      | (with_reducible exact LeO.refl _)
      | (with_reducible exact LeO.none _)
      | (with_reducible refine LeO.ite ?_ ?_)
      | (with_reducible refine LeO.bind ?_ (fun _ => ?_))
      | exact ih0 _ _ _ _ _ _ _ _
      | exact ih1 _ _ _ _ _ _ _ _ _
      | exact ih2 _ _ _ _ _ _ _ _ _
      | exact LeO.none _
      | refine LeO.ite ?_ ?_
      | refine LeO.bind ?_ (fun _ => ?_)
def crossbucklaw11_AxleTrains.T11 : Bool × List (List Nat × List Nat) := (true, [([], []), ([], []), ([], []), ([], []), ([2, 3], [2, 3]), ([4], [4]), ([1, 5], [1, 5]), ([], []), ([0, 6, 7], [0, 6, 7]), ([8, 8, 0, 1, 2, 3, 4, 5, 6, 7, 8], [8])])
def crossbucklaw11_AxleTrains.B11 : List Nat := [0, 0, 0, 0, 12, 28, 62, 0, 255, 511]
theorem crossbucklaw11_AxleTrains.tab11 : rtab .any (opsOf Try.f13 11) = crossbucklaw11_AxleTrains.T11 := by kernel_rfl
theorem crossbucklaw11_AxleTrains.bits11 : waitsOk crossbucklaw11_AxleTrains.T11.2 crossbucklaw11_AxleTrains.B11 = true := by kernel_rfl
def crossbucklaw11_AxleTrains.T12 : Bool × List (List Nat × List Nat) := (true, [([], []), ([0], [0]), ([1, 1], [1]), ([2], [2]), ([3, 2, 2], [2, 3]), ([2], [2]), ([2], [2]), ([5, 6, 2], [2, 5, 6]), ([7, 2], [2, 7]), ([4, 8, 2], [2, 4, 8]), ([2, 9], [2, 9])])
def crossbucklaw11_AxleTrains.B12 : List Nat := [0, 1, 3, 7, 15, 7, 7, 103, 231, 511, 1023]
theorem crossbucklaw11_AxleTrains.tab12 : rtab .any (opsOf Try.f13 12) = crossbucklaw11_AxleTrains.T12 := by kernel_rfl
theorem crossbucklaw11_AxleTrains.bits12 : waitsOk crossbucklaw11_AxleTrains.T12.2 crossbucklaw11_AxleTrains.B12 = true := by kernel_rfl
set_option maxHeartbeats 8000000 in
set_option maxRecDepth 100000 in
theorem crossbucklaw11_AxleTrains.calls (k : Nat) (a0 : Int) (A1 : Option Addr) (c1 : Nat) (l1 : List Int) (r : Bool) (w : World) (hr1 : Kd.C (Kd.int .i64) w A1 l1.length l1) (hc1 : l1.length ≤ c1) (h : crossbucklaw11_AxleTrains.f k a0 l1 = some r) :
    Calls Try.prog 13 #[.int .i64 a0, .slice A1 l1.length c1] w fun e w' => e = .returned (.bool r) ∧ Below w.heap.size w w' := by
  have hu34 := Try.underlying34
  have HR1 := Aside0.mk hr1
  have HC1 := Aside0.mk hc1
  clear hr1 hc1
  have HB := Aside0.mk (Below.refl w.heap.size w)
  have H : ((crossbucklaw11_small.f).bind fun t257 => (if (l1.length : Int) > 200 then (some t257) else ((axle_Step.f false 0 0 false a0 a0).bind fun bt258 => (crossbucklaw11_AxleTrains.l0 k l1 t257 a0 0 bt258.1 bt258.2.1 bt258.2.2.1 bt258.2.2.2)))) = some r := h
  clear h
  replace H := Option.bind_eq_some_iff.mp H
  obtain ⟨t257, A30, H⟩ := H
  replace H : (if (l1.length : Int) > 200 then (some t257) else ((axle_Step.f false 0 0 false a0 a0).bind fun bt258 => (crossbucklaw11_AxleTrains.l0 k l1 t257 a0 0 bt258.1 bt258.2.1 bt258.2.2.1 bt258.2.2.2))) = some r := H
  have A3 := Aside0.mk A30
  clear A30
  by_cases c4 : (l1.length : Int) > 200
  · rw [if_pos c4] at H
    have c4b0 : decide (200 < (l1.length : Int)) = true := decide_eq_true c4
    have c4b1 : decide (200 < l1.length) = true := decide_eq_true (by omega)
    clear c4
    obtain rfl := Option.some.inj H
    go_enter Try.func13, Try.ntmps13
    go_wp2_with (first | ((with_reducible refine gate_callee (f := 21) rfl ?_); refine goesL_ (some 9) rfl rfl Try.func21 (by kernel_rfl) rfl #[] rfl (by (try simp only [List.map_toArray, List.map_cons, List.map_nil]); first | done | rfl | (simp only [List.length_drop, List.length_take]; rfl)) ?_; (with_reducible refine (crossbucklaw11_small.calls  t257 _ A3.out).mono ?_); rintro e w5 ⟨rfl, hb⟩; refine ⟨_, rfl, ?_⟩; have n0_ := Aside0.mk (below_step (by repeat (first | (with_reducible first | exact HB.out | apply below_alloc | apply pw_below_drewN | apply below_drew1) | exact HB.out)) hb); clear HB; have HB := n0_; clear n0_; (try clear hb); (try clear hb2); (try clear hk); (try clear hi)))
    go_ret
    exact ⟨by first | rfl | (simp [errW_none, errW_some] <;> rfl) | (simp [*, errW_none, errW_some] <;> rfl), by repeat (first | (with_reducible first | exact HB.out | apply below_alloc | apply pw_below_drewN | apply below_drew1) | exact HB.out)⟩
  · rw [if_neg c4] at H
    have c4b0 : decide (200 < (l1.length : Int)) = false := decide_eq_false c4
    have c4b1 : decide (200 < l1.length) = false := decide_eq_false (by omega)
    clear c4
    replace H := Option.bind_eq_some_iff.mp H
    obtain ⟨⟨t258, t259, t260, t261⟩, A60, H⟩ := H
    replace H : (crossbucklaw11_AxleTrains.l0 k l1 t257 a0 0 t258 t259 t260 t261) = some r := H
    have A6 := Aside0.mk A60
    clear A60
    have H' := Aside0.mk H
    clear H
    go_enter Try.func13, Try.ntmps13
    go_wp2_with (first | ((with_reducible refine gate_callee (f := 21) rfl ?_); refine goesL_ (some 9) rfl rfl Try.func21 (by kernel_rfl) rfl #[] rfl (by (try simp only [List.map_toArray, List.map_cons, List.map_nil]); first | done | rfl | (simp only [List.length_drop, List.length_take]; rfl)) ?_; (with_reducible refine (crossbucklaw11_small.calls  t257 _ A3.out).mono ?_); rintro e w7 ⟨rfl, hb⟩; refine ⟨_, rfl, ?_⟩; have n0_ := Aside0.mk (below_step (by repeat (first | (with_reducible first | exact HB.out | apply below_alloc | apply pw_below_drewN | apply below_drew1) | exact HB.out)) hb); clear HB; have HB := n0_; clear n0_; (try clear hb); (try clear hb2); (try clear hk); (try clear hi)) | ((with_reducible refine gate_callee (f := 22) rfl ?_); refine goesL_ (some 18) rfl rfl Try.func22 (by kernel_rfl) rfl #[.agg #[.bool false, .int .i64 0, .int .i64 0, .bool false], .int .i64 a0, .int .i64 a0] rfl (by (try simp only [List.map_toArray, List.map_cons, List.map_nil]); first | done | rfl | (simp only [List.length_drop, List.length_take]; rfl)) ?_; (with_reducible refine (axle_Step.calls false 0 0 false a0 a0 t258 t259 t260 t261 _ A6.out).mono ?_); rintro e w8 ⟨rfl, hb⟩; refine ⟨_, rfl, ?_⟩; have n0_ := Aside0.mk (below_step (by repeat (first | (with_reducible first | exact HB.out | apply below_alloc | apply pw_below_drewN | apply below_drew1) | exact HB.out)) hb); clear HB; have HB := n0_; clear n0_; (try clear hb); (try clear hb2); (try clear hk); (try clear hi)) | ((with_reducible refine gate_dst (N := 7) rfl ?_); refine box_event ?hg (N := 7) ?hd (cs := #[.bool false, .int .i64 0, .int .i64 0, .bool false]) (t := 34) ?hr ?_; (case hd => rfl); (case hg => rfl); (case hr => first | (go_simp; done) | (go_simp; rfl)); intro gb262 hg w9 hbox hb; have n0_ := Aside0.mk (below_step (by repeat (first | (with_reducible first | exact HB.out | apply below_alloc | apply pw_below_drewN | apply below_drew1) | exact HB.out)) hb); have n1_ := Aside0.mk (hbox); have n2_ := Aside0.mk ((by rw [hg]; exact (below_size (by repeat (first | (with_reducible first | exact HB.out | apply below_alloc | apply pw_below_drewN | apply below_drew1) | exact HB.out))) : w.heap.size ≤ gb262)); have n3_ := Aside0.mk ((by rw [hg]; exact (below_size (by repeat (first | (with_reducible first | exact HB.out | apply below_alloc | apply pw_below_drewN | apply below_drew1) | exact HB.out))) : w.heap.size ≤ gb262)); clear HB; have HB := n0_; have BK262 := n1_; have GW262 := n2_; have GE262 := n3_; clear n0_ n1_ n2_ n3_; clear hb hbox hg; have hcz10_0 : w9.cell? ⟨gb262, 0, none⟩ = some (.bool false) := (blk_cell BK262.out 0).trans rfl; have hcz10_1 : w9.cell? ⟨gb262, 1, none⟩ = some (.int .i64 0) := (blk_cell BK262.out 1).trans rfl; have hcz10_2 : w9.cell? ⟨gb262, 2, none⟩ = some (.int .i64 0) := (blk_cell BK262.out 2).trans rfl; have hcz10_3 : w9.cell? ⟨gb262, 3, none⟩ = some (.bool false) := (blk_cell BK262.out 3).trans rfl; have hfz10_0 := blk_frozen BK262.out 0; have hfz10_1 := blk_frozen BK262.out 1; have hfz10_2 := blk_frozen BK262.out 2; have hfz10_3 := blk_frozen BK262.out 3))
    go_loopg [6, 8] k (fun kq v6 v8 w' => ∃ (x6_1 : Int) (x8_1 : Int) (x263000_1 : Bool) (x263001_1 : Int) (x263002_1 : Int) (x263003_1 : Bool), v6 = .int .i64 x6_1 ∧ v8 = .int .i64 x8_1 ∧ Aside0 (crossbucklaw11_AxleTrains.l0 kq l1 t257 x6_1 x8_1 x263000_1 x263001_1 x263002_1 x263003_1 = some r) ∧ Aside0 (kq ≤ k) ∧ Aside0 (w'.heap[gb262]? = some (.cells #[.bool x263000_1, .int .i64 x263001_1, .int .i64 x263002_1, .bool x263003_1] 34 (0, 0))) ∧ Aside0 (Below w.heap.size w w'))
    case atStart => exact ⟨(a0), (0), (t258), (t259), (t260), (t261), (by first | rfl | (simp; done) | (simp [*]; done)), (by first | rfl | (simp; done) | (simp [*]; done)), H', ⟨Nat.le_refl _⟩, ⟨by (with_reducible repeat (first | refine blk_drewN ?_ _ | refine blk_drew ?_ | refine blk_alloc ?_ _)); refine blk_put (cs := #[.bool t258, .int .i64 t259, .int .i64 t260, .bool false]) ?_ 3 _ rfl; (with_reducible repeat (first | refine blk_drewN ?_ _ | refine blk_drew ?_ | refine blk_alloc ?_ _)); refine blk_put (cs := #[.bool t258, .int .i64 t259, .int .i64 0, .bool false]) ?_ 2 _ rfl; (with_reducible repeat (first | refine blk_drewN ?_ _ | refine blk_drew ?_ | refine blk_alloc ?_ _)); refine blk_put (cs := #[.bool t258, .int .i64 0, .int .i64 0, .bool false]) ?_ 1 _ rfl; (with_reducible repeat (first | refine blk_drewN ?_ _ | refine blk_drew ?_ | refine blk_alloc ?_ _)); refine blk_put (cs := #[.bool false, .int .i64 0, .int .i64 0, .bool false]) ?_ 0 _ rfl; (with_reducible repeat (first | refine blk_drewN ?_ _ | refine blk_drew ?_ | refine blk_alloc ?_ _)); exact BK262.out⟩, ⟨by repeat (first | (with_reducible first | exact HB.out | apply below_alloc | apply pw_below_drewN | apply below_drew1 | refine below_set ?_ GE262.out) | exact HB.out)⟩⟩
    case round =>
      clear H'
      try clear c1
      try clear c2
      try clear p2
      try clear c4
      try clear c4b0
      try clear c4b1
      try clear hcz10_0
      try clear hcz10_1
      try clear hcz10_2
      try clear hcz10_3
      try clear hfz10_0
      try clear hfz10_1
      try clear hfz10_2
      try clear hfz10_3
      obtain ⟨x6_1, x8_1, x263000_1, x263001_1, x263002_1, x263003_1, rfl, rfl, HA, HK1, BK262, HB⟩ := hrel
      cases gk with
      | zero => exact absurd HA.out (by simp [crossbucklaw11_AxleTrains.l0])
      | succ k1 =>
        have H := HA.out
        clear HA
        simp only [crossbucklaw11_AxleTrains.l0] at H
        by_cases c11 : x8_1 < (l1.length : Int)
        · rw [if_pos c11] at H
          have c11b0 : decide (x8_1 < (l1.length : Int)) = true := decide_eq_true c11
          clear c11
          have HC12 := Aside0.mk H
          clear H
          go_upto_region 9 with (fail)
          go_cut [36] (fun v36 wc => ∃ (kq : Nat) (x36_11 : Bool), v36 = .bool x36_11 ∧ Aside0 (crossbucklaw11_AxleTrains.j1 kq l1 t257 x6_1 x8_1 x36_11 x263000_1 x263001_1 x263002_1 x263003_1 = some r) ∧ Aside0 (kq ≤ k1) ∧ Aside0 (wc.heap[gb262]? = some (.cells #[.bool x263000_1, .int .i64 x263001_1, .int .i64 x263002_1, .bool x263003_1] 34 (0, 0))) ∧ Aside0 (Below w.heap.size w wc))
          case first =>
            have H := HC12.out
            clear HC12
            by_cases c13 : 0 ≤ x8_1
            · rw [if_pos c13] at H
              have c13b0 : decide (0 ≤ x8_1) = true := decide_eq_true c13
              clear c13
              (first | rw [c13b0] | (simp only [i64_w, i32_w]; rw [c13b0]) | skip)
              by_cases c14 : (rd l1 x8_1) < 1
              · rw [if_pos c14] at H
                have c14b0 : decide ((rd l1 x8_1) < 1) = true := decide_eq_true c14
                clear c14
                have H' := Aside0.mk H
                clear H
                have p264 : 0 ≤ (x8_1 : Int) := of_decide_eq_true (by first | (with_reducible assumption) | assumption)
                have q264 : x8_1 < (l1.length : Int) := of_decide_eq_true (by first | (with_reducible assumption) | assumption)
                obtain ⟨ad264, e264, hx264_0⟩ := Kd.at_int HR1.out x8_1 p264 q264
                cases e264
                replace hx264_0 := (HB.out.cell (World.block_lt_of_cell? w _ hx264_0)).trans hx264_0
                replace p264 := eq_true p264
                replace q264 := eq_true q264
                go_wp2
                go_meet
                case rel => exact ⟨_, (true), (by first | rfl | (simp; done) | (simp [*]; done)), H', ⟨by have := HK1.out; first | omega | exact Nat.le_refl _⟩, ⟨by (with_reducible repeat (first | refine blk_drewN ?_ _ | refine blk_drew ?_ | refine blk_alloc ?_ _)); exact BK262.out⟩, ⟨by repeat (first | (with_reducible first | exact HB.out | apply below_alloc | apply pw_below_drewN | apply below_drew1 | refine below_set ?_ GE262.out) | exact HB.out)⟩⟩
              · rw [if_neg c14] at H
                have c14b0 : decide ((rd l1 x8_1) < 1) = false := decide_eq_false c14
                clear c14
                have H' := Aside0.mk H
                clear H
                have p264 : 0 ≤ (x8_1 : Int) := of_decide_eq_true (by first | (with_reducible assumption) | assumption)
                have q264 : x8_1 < (l1.length : Int) := of_decide_eq_true (by first | (with_reducible assumption) | assumption)
                obtain ⟨ad264, e264, hx264_0⟩ := Kd.at_int HR1.out x8_1 p264 q264
                cases e264
                replace hx264_0 := (HB.out.cell (World.block_lt_of_cell? w _ hx264_0)).trans hx264_0
                replace p264 := eq_true p264
                replace q264 := eq_true q264
                have p265 : 0 ≤ (x8_1 : Int) := of_decide_eq_true (by first | (with_reducible assumption) | assumption)
                have q265 : x8_1 < (l1.length : Int) := of_decide_eq_true (by first | (with_reducible assumption) | assumption)
                obtain ⟨ad265, e265, hx265_0⟩ := Kd.at_int HR1.out x8_1 p265 q265
                obtain rfl : ad264 = ad265 := (by injection e265)
                replace hx265_0 := (HB.out.cell (World.block_lt_of_cell? w _ hx265_0)).trans hx265_0
                replace p265 := eq_true p265
                replace q265 := eq_true q265
                go_wp2
                go_meet
                case rel => exact ⟨_, (decide ((rd l1 x8_1) > 64)), (by first | rfl | (simp; done) | (simp [*]; done)), H', ⟨by have := HK1.out; first | omega | exact Nat.le_refl _⟩, ⟨by (with_reducible repeat (first | refine blk_drewN ?_ _ | refine blk_drew ?_ | refine blk_alloc ?_ _)); exact BK262.out⟩, ⟨by repeat (first | (with_reducible first | exact HB.out | apply below_alloc | apply pw_below_drewN | apply below_drew1 | refine below_set ?_ GE262.out) | exact HB.out)⟩⟩
            · rw [if_neg c13] at H
              exact absurd H (by simp)
          case rest =>
            clear HC12
            try clear c1
            try clear c2
            try clear p2
            try clear q2
            try clear hx2
            try clear c4
            try clear c4b0
            try clear c4b1
            try clear c11
            try clear c11b0
            try clear c13
            try clear c13b0
            try clear c14
            try clear c14b0
            try clear hcz10_0
            try clear hcz10_1
            try clear hcz10_2
            try clear hcz10_3
            try clear hfz10_0
            try clear hfz10_1
            try clear hfz10_2
            try clear hfz10_3
            try clear hx264_0
            try clear hx265_0
            try clear p2
            try clear p264
            try clear p265
            try clear q264
            try clear q265
            obtain ⟨kq, x36_11, rfl, HA, HJ11, BK262, HB⟩ := hcut
            cases kq with
            | zero => exact absurd HA.out (by simp [crossbucklaw11_AxleTrains.j1])
            | succ kj11 =>
              have H := HA.out
              clear HA
              simp only [crossbucklaw11_AxleTrains.j1] at H
              by_cases c15 : x36_11 = true
              · subst c15
                have H1 : (some t257) = some r := by rw [if_pos rfl] at H; exact H
                clear H
                have H := H1
                clear H1
                obtain rfl := Option.some.inj H
                go_wp2
                go_ret
                exact ⟨by first | rfl | (simp [errW_none, errW_some] <;> rfl) | (simp [*, errW_none, errW_some] <;> rfl), by repeat (first | (with_reducible first | exact HB.out | apply below_alloc | apply pw_below_drewN | apply below_drew1 | refine below_set ?_ GE262.out) | exact HB.out)⟩
              · replace c15 := Bool.eq_false_iff.mpr c15
                subst c15
                have H1 : (if 0 ≤ x8_1 then (if x8_1 < (l1.length : Int) then ((axle_Step.f x263000_1 x263001_1 x263002_1 x263003_1 (wrap64 (x6_1 + (rd l1 x8_1))) x6_1).bind fun bt267 => ((axle_Clear.f bt267.1 bt267.2.1 bt267.2.2.1 bt267.2.2.2).bind fun t271 => (if t271 = true then (crossbucklaw11_AxleTrains.j2 kj11 l1 t257 x6_1 x8_1 true bt267.1 bt267.2.1 bt267.2.2.1 bt267.2.2.2) else ((axle_On.f bt267.1 bt267.2.1 bt267.2.2.1 bt267.2.2.2).bind fun t272 => (crossbucklaw11_AxleTrains.j2 kj11 l1 t257 x6_1 x8_1 (t272 != (rd l1 x8_1)) bt267.1 bt267.2.1 bt267.2.2.1 bt267.2.2.2))))) else (none)) else (none)) = some r := by rw [if_neg (show ¬ (false = true) by decide)] at H; exact H
                clear H
                have H := H1
                clear H1
                by_cases c16 : 0 ≤ x8_1
                · rw [if_pos c16] at H
                  have c16b0 : decide (0 ≤ x8_1) = true := decide_eq_true c16
                  clear c16
                  by_cases c17 : x8_1 < (l1.length : Int)
                  · rw [if_pos c17] at H
                    have c17b0 : decide (x8_1 < (l1.length : Int)) = true := decide_eq_true c17
                    clear c17
                    replace H := Option.bind_eq_some_iff.mp H
                    obtain ⟨⟨t267, t268, t269, t270⟩, A180, H⟩ := H
                    replace H : ((axle_Clear.f t267 t268 t269 t270).bind fun t271 => (if t271 = true then (crossbucklaw11_AxleTrains.j2 kj11 l1 t257 x6_1 x8_1 true t267 t268 t269 t270) else ((axle_On.f t267 t268 t269 t270).bind fun t272 => (crossbucklaw11_AxleTrains.j2 kj11 l1 t257 x6_1 x8_1 (t272 != (rd l1 x8_1)) t267 t268 t269 t270)))) = some r := H
                    have A18 := Aside0.mk A180
                    clear A180
                    have HC19 := Aside0.mk H
                    clear H
                    try go_wp2
                    have n0_ := Aside0.mk (blk_drew BK262.out)
                    have n1_ := Aside0.mk (below_drew1 HB.out)
                    clear BK262
                    clear HB
                    have BK262 := n0_
                    have HB := n1_
                    clear n0_ n1_
                    have p266 : 0 ≤ (x8_1 : Int) := of_decide_eq_true (by first | (with_reducible assumption) | assumption)
                    have q266 : x8_1 < (l1.length : Int) := of_decide_eq_true (by first | (with_reducible assumption) | assumption)
                    obtain ⟨ad266, e266, hx266_0⟩ := Kd.at_int HR1.out x8_1 p266 q266
                    have hw266_0 := hx266_0
                    cases e266
                    replace hx266_0 := (HB.out.cell (World.block_lt_of_cell? w _ hx266_0)).trans hx266_0
                    replace p266 := eq_true p266
                    replace q266 := eq_true q266
                    refine start_ (n := 10) (S := fun w' => w'.cell? ⟨gb262, 0, none⟩ = some (.bool x263000_1) ∧ w'.cell? ⟨gb262, 1, none⟩ = some (.int .i64 x263001_1) ∧ w'.cell? ⟨gb262, 2, none⟩ = some (.int .i64 x263002_1) ∧ w'.cell? ⟨gb262, 3, none⟩ = some (.bool x263003_1) ∧ w'.cell? (ad266.add (x8_1).toNat) = some (.int .i64 (rd l1 x8_1))) (ds := [9]) #[false, false, false, false, false, false, false, false, false, false] (by kernel_rfl) rfl rfl ⟨(blk_cell BK262.out 0).trans rfl, (blk_cell BK262.out 1).trans rfl, (blk_cell BK262.out 2).trans rfl, (blk_cell BK262.out 3).trans rfl, ((HB.out.cell (World.block_lt_of_cell? w _ hw266_0)).trans hw266_0)⟩ (fun hHeld => ?_); refine with_tabW crossbucklaw11_AxleTrains.tab11 crossbucklaw11_AxleTrains.bits11 (fun HT_ HW_ => ?_)
                    generalize wc.drew = w20 at BK262 HB hx266_0 hHeld ⊢
                    refine pure_ (i := 1) (N := some 39) (v := ?_) (a' := ?_) #[false, true, false, false, false, false, false, false, false, false] rfl rfl (any_of HT_.out (by kernel_rfl)) (fun _ _ _ h => h) (Or.inl ⟨by rfl, ?_⟩) ?_ ?_
                    rotate_left
                    · intro w'
                      go_simp
                      with_reducible rfl
                    rotate_left
                    · simp only [Act.put, List.setIfInBounds_toArray, List.set_cons_zero, List.set_cons_succ, i64_w, i32_w]
                      rfl
                    refine pure_ (i := 2) (N := some 40) (v := ?_) (a' := ?_) #[false, true, true, false, false, false, false, false, false, false] rfl rfl (any_of HT_.out (by kernel_rfl)) (fun _ _ _ h => h) (Or.inl ⟨by rfl, ?_⟩) ?_ ?_
                    rotate_left
                    · intro w'
                      go_simp
                      with_reducible rfl
                    rotate_left
                    · simp only [Act.put, List.setIfInBounds_toArray, List.set_cons_zero, List.set_cons_succ, i64_w, i32_w]
                      rfl
                    refine pure_ (i := 3) (N := some 41) (v := ?_) (a' := ?_) #[false, true, true, true, false, false, false, false, false, false] rfl rfl (any_of HT_.out (by kernel_rfl)) (fun _ _ _ h => h) (Or.inl ⟨by rfl, ?_⟩) ?_ ?_
                    rotate_left
                    · intro w'
                      go_simp
                      with_reducible rfl
                    rotate_left
                    · simp only [Act.put, List.setIfInBounds_toArray, List.set_cons_zero, List.set_cons_succ, i64_w, i32_w]
                      rfl
                    refine pure_ (i := 4) (N := some 42) (v := ?_) (a' := ?_) #[false, true, true, true, true, false, false, false, false, false] rfl rfl (any_of HT_.out (by kernel_rfl)) (fun _ _ _ h => h) (Or.inl ⟨by rfl, ?_⟩) ?_ ?_
                    rotate_left
                    · intro w'
                      go_simp
                      with_reducible rfl
                    rotate_left
                    · simp only [Act.put, List.setIfInBounds_toArray, List.set_cons_zero, List.set_cons_succ, i64_w, i32_w]
                      rfl
                    refine pure_ (i := 7) (N := some 45) (v := ?_) (a' := ?_) #[false, true, true, true, true, false, false, true, false, false] rfl rfl (any_of HT_.out (by kernel_rfl)) (fun _ _ _ h => h) (Or.inl ⟨by rfl, ?_⟩) ?_ ?_
                    rotate_left
                    · intro w'
                      go_simp
                      with_reducible rfl
                    rotate_left
                    · simp only [Act.put, List.setIfInBounds_toArray, List.set_cons_zero, List.set_cons_succ, i64_w, i32_w]
                      rfl
                    refine take_ (i := 0) (N := some 38) (v := ?_) (a' := ?_) #[true, true, true, true, true, false, false, true, false, false] rfl rfl (take_ofW HT_.out HW_.out (by kernel_rfl)) (fun _ _ _ h => h) (Or.inl ⟨by rfl, ?_⟩) hHeld ?_ ?_
                    rotate_left
                    · rintro w' ⟨s0, s1, s2, s3, s4⟩
                      go_simp
                      with_reducible rfl
                    rotate_left
                    · simp only [Act.put, List.setIfInBounds_toArray, List.set_cons_zero, List.set_cons_succ, i64_w, i32_w]
                      rfl
                    refine take_ (i := 5) (N := some 43) (v := ?_) (a' := ?_) #[true, true, true, true, true, true, false, true, false, false] rfl rfl (take_ofW HT_.out HW_.out (by kernel_rfl)) (fun _ _ _ h => h) (Or.inl ⟨by rfl, ?_⟩) hHeld ?_ ?_
                    rotate_left
                    · rintro w' ⟨s0, s1, s2, s3, s4⟩
                      go_simp
                      with_reducible rfl
                    rotate_left
                    · simp only [Act.put, List.setIfInBounds_toArray, List.set_cons_zero, List.set_cons_succ, i64_w, i32_w]
                      rfl
                    refine pure_ (i := 6) (N := some 44) (v := ?_) (a' := ?_) #[true, true, true, true, true, true, true, true, false, false] rfl rfl (any_of HT_.out (by kernel_rfl)) (fun _ _ _ h => h) (Or.inl ⟨by rfl, ?_⟩) ?_ ?_
                    rotate_left
                    · intro w'
                      go_simp
                      with_reducible rfl
                    rotate_left
                    · simp only [Act.put, List.setIfInBounds_toArray, List.set_cons_zero, List.set_cons_succ, i64_w, i32_w]
                      rfl
                    refine one_ (i := 8) (N := some 46) #[true, true, true, true, true, true, true, true, true, false] rfl rfl (one_of HT_.out (by kernel_rfl)) (by decide) (fun K hK => ?_)
                    refine goes_ Try.func22 (by kernel_rfl) rfl #[.agg #[.bool x263000_1, .int .i64 x263001_1, .int .i64 x263002_1, .bool x263003_1], .int .i64 (wrap64 (x6_1 + (rd l1 x8_1))), .int .i64 x6_1] (by rfl) rfl rfl (by (try simp only [List.map_toArray, List.map_cons, List.map_nil]); first | done | rfl | (simp only [List.length_drop, List.length_take]; rfl)) ?_
                    with_reducible refine (axle_Step.calls x263000_1 x263001_1 x263002_1 x263003_1 (wrap64 (x6_1 + (rd l1 x8_1))) x6_1 t267 t268 t269 t270 _ A18.out).mono ?_
                    rintro e w21 ⟨rfl, hb⟩
                    refine ⟨_, rfl, ?_⟩
                    have n0_ := Aside0.mk (blk_below (g := gb262) (o := .cells #[.bool x263000_1, .int .i64 x263001_1, .int .i64 x263002_1, .bool x263003_1] 34 (0, 0)) (by (with_reducible repeat (first | refine blk_drewN ?_ _ | refine blk_drew ?_ | refine blk_alloc ?_ _)); exact BK262.out) hb)
                    have n1_ := Aside0.mk (below_step (by repeat (first | (with_reducible first | exact HB.out | apply below_alloc | apply pw_below_drewN | apply below_drew1 | refine below_set ?_ GE262.out) | exact HB.out)) hb)
                    clear BK262
                    clear HB
                    have BK262 := n0_
                    have HB := n1_
                    clear n0_ n1_
                    (try clear hb)
                    (try clear hb2)
                    (try clear hk)
                    (try clear hi)
                    refine hK.out _ _ ⟨(blk_cell BK262.out 0).trans rfl, (blk_cell BK262.out 1).trans rfl, (blk_cell BK262.out 2).trans rfl, (blk_cell BK262.out 3).trans rfl, ((HB.out.cell (World.block_lt_of_cell? w _ hw266_0)).trans hw266_0)⟩ (fun hHeld => ?_)
                    clear hK K
                    refine norm_ (a' := ?_) ?_ ?_
                    rotate_left
                    · show Act.put _ (some 46) _ = _
                      simp only [Act.put, List.setIfInBounds_toArray, List.set_cons_zero, List.set_cons_succ, i64_w, i32_w]
                      rfl
                    refine last_ (i := 9) (N := none) #[true, true, true, true, true, true, true, true, true, true] rfl rfl (one_of HT_.out (by kernel_rfl)) (by decide) (fun K hK => ?_)
                    have hs22 : w21.cell? ⟨gb262, 0, none⟩ = some (.bool x263000_1) := (blk_cell BK262.out 0).trans rfl
                    have hfs22 := blk_frozen BK262.out 0
                    have hs23 : w21.cell? ⟨gb262, 1, none⟩ = some (.int .i64 x263001_1) := (blk_cell BK262.out 1).trans rfl
                    have hfs23 := blk_frozen BK262.out 1
                    have hs24 : w21.cell? ⟨gb262, 2, none⟩ = some (.int .i64 x263002_1) := (blk_cell BK262.out 2).trans rfl
                    have hfs24 := blk_frozen BK262.out 2
                    have hs25 : w21.cell? ⟨gb262, 3, none⟩ = some (.bool x263003_1) := (blk_cell BK262.out 3).trans rfl
                    have hfs25 := blk_frozen BK262.out 3
                    refine skip_ (w1 := ?_) (by rfl) rfl ?_ ?_
                    rotate_left
                    · go_simp
                      rfl
                    refine hK.out _ _ ?_
                    clear hK K
                    refine done_ (done_of HT_.out (by kernel_rfl)) ?_
                    go_upto_region 12 with (fail)
                    go_cut [57] (fun v57 wc => ∃ (kq : Nat) (x57_18 : Bool), v57 = .bool x57_18 ∧ Aside0 (crossbucklaw11_AxleTrains.j2 kq l1 t257 x6_1 x8_1 x57_18 t267 t268 t269 t270 = some r) ∧ Aside0 (kq ≤ kj11) ∧ Aside0 (wc.heap[gb262]? = some (.cells #[.bool t267, .int .i64 t268, .int .i64 t269, .bool t270] 34 (0, 0))) ∧ Aside0 (Below w.heap.size w wc))
                    case first =>
                      have H := HC19.out
                      clear HC19
                      replace H := Option.bind_eq_some_iff.mp H
                      obtain ⟨t271, A260, H⟩ := H
                      replace H : (if t271 = true then (crossbucklaw11_AxleTrains.j2 kj11 l1 t257 x6_1 x8_1 true t267 t268 t269 t270) else ((axle_On.f t267 t268 t269 t270).bind fun t272 => (crossbucklaw11_AxleTrains.j2 kj11 l1 t257 x6_1 x8_1 (t272 != (rd l1 x8_1)) t267 t268 t269 t270))) = some r := H
                      have A26 := Aside0.mk A260
                      clear A260
                      by_cases c27 : t271 = true
                      · subst c27
                        have H1 : (crossbucklaw11_AxleTrains.j2 kj11 l1 t257 x6_1 x8_1 true t267 t268 t269 t270) = some r := by rw [if_pos rfl] at H; exact H
                        clear H
                        have H := H1
                        clear H1
                        have H' := Aside0.mk H
                        clear H
                        try go_wp2
                        have n0_ : Aside0 (((((w21.setCell ⟨gb262, 0, none⟩ (.bool t267)).setCell ⟨gb262, 1, none⟩ (.int .i64 t268)).setCell ⟨gb262, 2, none⟩ (.int .i64 t269)).setCell ⟨gb262, 3, none⟩ (.bool t270)).heap[gb262]? = some (.cells #[.bool t267, .int .i64 t268, .int .i64 t269, .bool t270] 34 (0, 0))) := ⟨by (with_reducible repeat (first | refine blk_drewN ?_ _ | refine blk_drew ?_ | refine blk_alloc ?_ _)); refine blk_put (cs := #[.bool t267, .int .i64 t268, .int .i64 t269, .bool x263003_1]) ?_ 3 _ rfl; (with_reducible repeat (first | refine blk_drewN ?_ _ | refine blk_drew ?_ | refine blk_alloc ?_ _)); refine blk_put (cs := #[.bool t267, .int .i64 t268, .int .i64 x263002_1, .bool x263003_1]) ?_ 2 _ rfl; (with_reducible repeat (first | refine blk_drewN ?_ _ | refine blk_drew ?_ | refine blk_alloc ?_ _)); refine blk_put (cs := #[.bool t267, .int .i64 x263001_1, .int .i64 x263002_1, .bool x263003_1]) ?_ 1 _ rfl; (with_reducible repeat (first | refine blk_drewN ?_ _ | refine blk_drew ?_ | refine blk_alloc ?_ _)); refine blk_put (cs := #[.bool x263000_1, .int .i64 x263001_1, .int .i64 x263002_1, .bool x263003_1]) ?_ 0 _ rfl; (with_reducible repeat (first | refine blk_drewN ?_ _ | refine blk_drew ?_ | refine blk_alloc ?_ _)); exact BK262.out⟩
                        have n1_ : Aside0 (Below w.heap.size w ((((w21.setCell ⟨gb262, 0, none⟩ (.bool t267)).setCell ⟨gb262, 1, none⟩ (.int .i64 t268)).setCell ⟨gb262, 2, none⟩ (.int .i64 t269)).setCell ⟨gb262, 3, none⟩ (.bool t270))) := ⟨by repeat (first | (with_reducible first | exact HB.out | apply below_alloc | apply pw_below_drewN | apply below_drew1 | refine below_set ?_ GE262.out) | exact HB.out)⟩
                        (try clear BK262)
                        (try clear HB)
                        generalize ((((w21.setCell ⟨gb262, 0, none⟩ (.bool t267)).setCell ⟨gb262, 1, none⟩ (.int .i64 t268)).setCell ⟨gb262, 2, none⟩ (.int .i64 t269)).setCell ⟨gb262, 3, none⟩ (.bool t270)) = w28 at n0_ n1_ ⊢
                        have BK262 := n0_
                        have HB := n1_
                        clear n0_ n1_
                        have n0_ := Aside0.mk (blk_drew BK262.out)
                        have n1_ := Aside0.mk (below_drew1 HB.out)
                        clear BK262
                        clear HB
                        have BK262 := n0_
                        have HB := n1_
                        clear n0_ n1_
                        refine start_ (n := 11) (S := fun w' => w'.cell? ⟨gb262, 0, none⟩ = some (.bool t267) ∧ w'.cell? ⟨gb262, 1, none⟩ = some (.int .i64 t268) ∧ w'.cell? ⟨gb262, 2, none⟩ = some (.int .i64 t269) ∧ w'.cell? ⟨gb262, 3, none⟩ = some (.bool t270)) (ds := []) #[false, false, false, false, false, false, false, false, false, false, false] (by kernel_rfl) rfl rfl ⟨(blk_cell BK262.out 0).trans rfl, (blk_cell BK262.out 1).trans rfl, (blk_cell BK262.out 2).trans rfl, (blk_cell BK262.out 3).trans rfl⟩ (fun hHeld => ?_); refine with_tabW crossbucklaw11_AxleTrains.tab12 crossbucklaw11_AxleTrains.bits12 (fun HT_ HW_ => ?_)
                        generalize w28.drew = w29 at BK262 HB hHeld ⊢
                        refine take_ (i := 0) (N := some 47) (v := ?_) (a' := ?_) #[true, false, false, false, false, false, false, false, false, false, false] rfl rfl (take_ofW HT_.out HW_.out (by kernel_rfl)) (fun _ _ _ h => h) (Or.inl ⟨by rfl, ?_⟩) hHeld ?_ ?_
                        rotate_left
                        · rintro w' ⟨s0, s1, s2, s3⟩
                          go_simp
                          with_reducible rfl
                        rotate_left
                        · simp only [Act.put, List.setIfInBounds_toArray, List.set_cons_zero, List.set_cons_succ, i64_w, i32_w]
                          rfl
                        refine one_ (i := 1) (N := some 48) #[true, true, false, false, false, false, false, false, false, false, false] rfl rfl (one_of HT_.out (by kernel_rfl)) (by decide) (fun K hK => ?_)
                        refine goes_ Try.func26 (by kernel_rfl) rfl #[.agg #[.bool t267, .int .i64 t268, .int .i64 t269, .bool t270]] (by rfl) rfl rfl (by (try simp only [List.map_toArray, List.map_cons, List.map_nil]); first | done | rfl | (simp only [List.length_drop, List.length_take]; rfl)) ?_
                        with_reducible refine (axle_Clear.calls t267 t268 t269 t270 true _ A26.out).mono ?_
                        rintro e w30 ⟨rfl, hb⟩
                        refine ⟨_, rfl, ?_⟩
                        have n0_ := Aside0.mk (blk_below (g := gb262) (o := .cells #[.bool t267, .int .i64 t268, .int .i64 t269, .bool t270] 34 (0, 0)) (by (with_reducible repeat (first | refine blk_drewN ?_ _ | refine blk_drew ?_ | refine blk_alloc ?_ _)); exact BK262.out) hb)
                        have n1_ := Aside0.mk (below_step (by repeat (first | (with_reducible first | exact HB.out | apply below_alloc | apply pw_below_drewN | apply below_drew1 | refine below_set ?_ GE262.out) | exact HB.out)) hb)
                        clear BK262
                        clear HB
                        have BK262 := n0_
                        have HB := n1_
                        clear n0_ n1_
                        (try clear hb)
                        (try clear hb2)
                        (try clear hk)
                        (try clear hi)
                        refine hK.out _ _ ⟨(blk_cell BK262.out 0).trans rfl, (blk_cell BK262.out 1).trans rfl, (blk_cell BK262.out 2).trans rfl, (blk_cell BK262.out 3).trans rfl⟩ (fun hHeld => ?_)
                        clear hK K
                        refine norm_ (a' := ?_) ?_ ?_
                        rotate_left
                        · show Act.put _ (some 48) _ = _
                          simp only [Act.put, List.setIfInBounds_toArray, List.set_cons_zero, List.set_cons_succ, i64_w, i32_w]
                          rfl
                        refine pure_ (i := 2) (N := some 49) (v := ?_) (a' := ?_) #[true, true, true, false, false, false, false, false, false, false, false] rfl rfl (any_of HT_.out (by kernel_rfl)) (fun _ _ _ h => h) (Or.inl ⟨by rfl, ?_⟩) ?_ ?_
                        rotate_left
                        · intro w'
                          go_simp
                          with_reducible rfl
                        rotate_left
                        · simp only [Act.put, List.setIfInBounds_toArray, List.set_cons_zero, List.set_cons_succ, i64_w, i32_w]
                          rfl
                        refine pure_ (i := 3) (N := some 50) (v := undef) (a' := ?_) #[true, true, true, true, false, false, false, false, false, false, false] rfl rfl (any_of HT_.out (by kernel_rfl)) (fun _ _ _ h => h) (Or.inr ⟨by rfl, rfl⟩) ?_ ?_
                        rotate_left
                        · simp only [Act.put, List.setIfInBounds_toArray, List.set_cons_zero, List.set_cons_succ, i64_w, i32_w]
                          rfl
                        refine pure_ (i := 4) (N := some 51) (v := undef) (a' := ?_) #[true, true, true, true, true, false, false, false, false, false, false] rfl rfl (any_of HT_.out (by kernel_rfl)) (fun _ _ _ h => h) (Or.inr ⟨by rfl, rfl⟩) ?_ ?_
                        rotate_left
                        · simp only [Act.put, List.setIfInBounds_toArray, List.set_cons_zero, List.set_cons_succ, i64_w, i32_w]
                          rfl
                        refine pure_ (i := 5) (N := some 52) (v := undef) (a' := ?_) #[true, true, true, true, true, true, false, false, false, false, false] rfl rfl (any_of HT_.out (by kernel_rfl)) (fun _ _ _ h => h) (Or.inr ⟨by rfl, rfl⟩) ?_ ?_
                        rotate_left
                        · simp only [Act.put, List.setIfInBounds_toArray, List.set_cons_zero, List.set_cons_succ, i64_w, i32_w]
                          rfl
                        refine pure_ (i := 6) (N := some 53) (v := undef) (a' := ?_) #[true, true, true, true, true, true, true, false, false, false, false] rfl rfl (any_of HT_.out (by kernel_rfl)) (fun _ _ _ h => h) (Or.inr ⟨by rfl, rfl⟩) ?_ ?_
                        rotate_left
                        · simp only [Act.put, List.setIfInBounds_toArray, List.set_cons_zero, List.set_cons_succ, i64_w, i32_w]
                          rfl
                        refine pure_ (i := 7) (N := some 54) (v := undef) (a' := ?_) #[true, true, true, true, true, true, true, true, false, false, false] rfl rfl (any_of HT_.out (by kernel_rfl)) (fun _ _ _ h => h) (Or.inr ⟨by rfl, rfl⟩) ?_ ?_
                        rotate_left
                        · simp only [Act.put, List.setIfInBounds_toArray, List.set_cons_zero, List.set_cons_succ, i64_w, i32_w]
                          rfl
                        refine pure_ (i := 8) (N := some 55) (v := undef) (a' := ?_) #[true, true, true, true, true, true, true, true, true, false, false] rfl rfl (any_of HT_.out (by kernel_rfl)) (fun _ _ _ h => h) (Or.inr ⟨by rfl, rfl⟩) ?_ ?_
                        rotate_left
                        · simp only [Act.put, List.setIfInBounds_toArray, List.set_cons_zero, List.set_cons_succ, i64_w, i32_w]
                          rfl
                        refine pure_ (i := 9) (N := some 56) (v := undef) (a' := ?_) #[true, true, true, true, true, true, true, true, true, true, false] rfl rfl (any_of HT_.out (by kernel_rfl)) (fun _ _ _ h => h) (Or.inr ⟨by rfl, rfl⟩) ?_ ?_
                        rotate_left
                        · simp only [Act.put, List.setIfInBounds_toArray, List.set_cons_zero, List.set_cons_succ, i64_w, i32_w]
                          rfl
                        refine pure_ (i := 10) (N := some 57) (v := ?_) (a' := ?_) #[true, true, true, true, true, true, true, true, true, true, true] rfl rfl (any_of HT_.out (by kernel_rfl)) (fun _ _ _ h => h) (Or.inl ⟨by rfl, ?_⟩) ?_ ?_
                        rotate_left
                        · intro w'
                          go_simp
                          with_reducible rfl
                        rotate_left
                        · simp only [Act.put, List.setIfInBounds_toArray, List.set_cons_zero, List.set_cons_succ, i64_w, i32_w]
                          rfl
                        refine done_ (done_of HT_.out (by kernel_rfl)) ?_
                        try go_wp2
                        go_meet
                        case rel => exact ⟨_, (true), (by first | rfl | (simp; done) | (simp [*]; done)), H', ⟨by have := HK1.out; have := HJ11.out; first | omega | exact Nat.le_refl _⟩, ⟨by (with_reducible repeat (first | refine blk_drewN ?_ _ | refine blk_drew ?_ | refine blk_alloc ?_ _)); exact BK262.out⟩, ⟨by repeat (first | (with_reducible first | exact HB.out | apply below_alloc | apply pw_below_drewN | apply below_drew1 | refine below_set ?_ GE262.out) | exact HB.out)⟩⟩
                      · replace c27 := Bool.eq_false_iff.mpr c27
                        subst c27
                        have H1 : ((axle_On.f t267 t268 t269 t270).bind fun t272 => (crossbucklaw11_AxleTrains.j2 kj11 l1 t257 x6_1 x8_1 (t272 != (rd l1 x8_1)) t267 t268 t269 t270)) = some r := by rw [if_neg (show ¬ (false = true) by decide)] at H; exact H
                        clear H
                        have H := H1
                        clear H1
                        replace H := Option.bind_eq_some_iff.mp H
                        obtain ⟨t272, A310, H⟩ := H
                        replace H : (crossbucklaw11_AxleTrains.j2 kj11 l1 t257 x6_1 x8_1 (t272 != (rd l1 x8_1)) t267 t268 t269 t270) = some r := H
                        have A31 := Aside0.mk A310
                        clear A310
                        have H' := Aside0.mk H
                        clear H
                        try go_wp2
                        have n0_ : Aside0 (((((w21.setCell ⟨gb262, 0, none⟩ (.bool t267)).setCell ⟨gb262, 1, none⟩ (.int .i64 t268)).setCell ⟨gb262, 2, none⟩ (.int .i64 t269)).setCell ⟨gb262, 3, none⟩ (.bool t270)).heap[gb262]? = some (.cells #[.bool t267, .int .i64 t268, .int .i64 t269, .bool t270] 34 (0, 0))) := ⟨by (with_reducible repeat (first | refine blk_drewN ?_ _ | refine blk_drew ?_ | refine blk_alloc ?_ _)); refine blk_put (cs := #[.bool t267, .int .i64 t268, .int .i64 t269, .bool x263003_1]) ?_ 3 _ rfl; (with_reducible repeat (first | refine blk_drewN ?_ _ | refine blk_drew ?_ | refine blk_alloc ?_ _)); refine blk_put (cs := #[.bool t267, .int .i64 t268, .int .i64 x263002_1, .bool x263003_1]) ?_ 2 _ rfl; (with_reducible repeat (first | refine blk_drewN ?_ _ | refine blk_drew ?_ | refine blk_alloc ?_ _)); refine blk_put (cs := #[.bool t267, .int .i64 x263001_1, .int .i64 x263002_1, .bool x263003_1]) ?_ 1 _ rfl; (with_reducible repeat (first | refine blk_drewN ?_ _ | refine blk_drew ?_ | refine blk_alloc ?_ _)); refine blk_put (cs := #[.bool x263000_1, .int .i64 x263001_1, .int .i64 x263002_1, .bool x263003_1]) ?_ 0 _ rfl; (with_reducible repeat (first | refine blk_drewN ?_ _ | refine blk_drew ?_ | refine blk_alloc ?_ _)); exact BK262.out⟩
                        have n1_ : Aside0 (Below w.heap.size w ((((w21.setCell ⟨gb262, 0, none⟩ (.bool t267)).setCell ⟨gb262, 1, none⟩ (.int .i64 t268)).setCell ⟨gb262, 2, none⟩ (.int .i64 t269)).setCell ⟨gb262, 3, none⟩ (.bool t270))) := ⟨by repeat (first | (with_reducible first | exact HB.out | apply below_alloc | apply pw_below_drewN | apply below_drew1 | refine below_set ?_ GE262.out) | exact HB.out)⟩
                        (try clear BK262)
                        (try clear HB)
                        generalize ((((w21.setCell ⟨gb262, 0, none⟩ (.bool t267)).setCell ⟨gb262, 1, none⟩ (.int .i64 t268)).setCell ⟨gb262, 2, none⟩ (.int .i64 t269)).setCell ⟨gb262, 3, none⟩ (.bool t270)) = w32 at n0_ n1_ ⊢
                        have BK262 := n0_
                        have HB := n1_
                        clear n0_ n1_
                        have n0_ := Aside0.mk (blk_drew BK262.out)
                        have n1_ := Aside0.mk (below_drew1 HB.out)
                        clear BK262
                        clear HB
                        have BK262 := n0_
                        have HB := n1_
                        clear n0_ n1_
                        have p273 : 0 ≤ (x8_1 : Int) := of_decide_eq_true (by first | (with_reducible assumption) | assumption)
                        have q273 : x8_1 < (l1.length : Int) := of_decide_eq_true (by first | (with_reducible assumption) | assumption)
                        obtain ⟨ad273, e273, hx273_0⟩ := Kd.at_int HR1.out x8_1 p273 q273
                        have hw273_0 := hx273_0
                        obtain rfl : ad266 = ad273 := (by injection e273)
                        replace hx273_0 := (HB.out.cell (World.block_lt_of_cell? w _ hx273_0)).trans hx273_0
                        replace p273 := eq_true p273
                        replace q273 := eq_true q273
                        refine start_ (n := 11) (S := fun w' => w'.cell? ⟨gb262, 0, none⟩ = some (.bool t267) ∧ w'.cell? ⟨gb262, 1, none⟩ = some (.int .i64 t268) ∧ w'.cell? ⟨gb262, 2, none⟩ = some (.int .i64 t269) ∧ w'.cell? ⟨gb262, 3, none⟩ = some (.bool t270) ∧ w'.cell? (ad266.add (x8_1).toNat) = some (.int .i64 (rd l1 x8_1))) (ds := []) #[false, false, false, false, false, false, false, false, false, false, false] (by kernel_rfl) rfl rfl ⟨(blk_cell BK262.out 0).trans rfl, (blk_cell BK262.out 1).trans rfl, (blk_cell BK262.out 2).trans rfl, (blk_cell BK262.out 3).trans rfl, ((HB.out.cell (World.block_lt_of_cell? w _ hw273_0)).trans hw273_0)⟩ (fun hHeld => ?_); refine with_tabW crossbucklaw11_AxleTrains.tab12 crossbucklaw11_AxleTrains.bits12 (fun HT_ HW_ => ?_)
                        generalize w32.drew = w33 at BK262 HB hx273_0 hHeld ⊢
                        refine take_ (i := 0) (N := some 47) (v := ?_) (a' := ?_) #[true, false, false, false, false, false, false, false, false, false, false] rfl rfl (take_ofW HT_.out HW_.out (by kernel_rfl)) (fun _ _ _ h => h) (Or.inl ⟨by rfl, ?_⟩) hHeld ?_ ?_
                        rotate_left
                        · rintro w' ⟨s0, s1, s2, s3, s4⟩
                          go_simp
                          with_reducible rfl
                        rotate_left
                        · simp only [Act.put, List.setIfInBounds_toArray, List.set_cons_zero, List.set_cons_succ, i64_w, i32_w]
                          rfl
                        refine one_ (i := 1) (N := some 48) #[true, true, false, false, false, false, false, false, false, false, false] rfl rfl (one_of HT_.out (by kernel_rfl)) (by decide) (fun K hK => ?_)
                        refine goes_ Try.func26 (by kernel_rfl) rfl #[.agg #[.bool t267, .int .i64 t268, .int .i64 t269, .bool t270]] (by rfl) rfl rfl (by (try simp only [List.map_toArray, List.map_cons, List.map_nil]); first | done | rfl | (simp only [List.length_drop, List.length_take]; rfl)) ?_
                        with_reducible refine (axle_Clear.calls t267 t268 t269 t270 false _ A26.out).mono ?_
                        rintro e w34 ⟨rfl, hb⟩
                        refine ⟨_, rfl, ?_⟩
                        have n0_ := Aside0.mk (blk_below (g := gb262) (o := .cells #[.bool t267, .int .i64 t268, .int .i64 t269, .bool t270] 34 (0, 0)) (by (with_reducible repeat (first | refine blk_drewN ?_ _ | refine blk_drew ?_ | refine blk_alloc ?_ _)); exact BK262.out) hb)
                        have n1_ := Aside0.mk (below_step (by repeat (first | (with_reducible first | exact HB.out | apply below_alloc | apply pw_below_drewN | apply below_drew1 | refine below_set ?_ GE262.out) | exact HB.out)) hb)
                        clear BK262
                        clear HB
                        have BK262 := n0_
                        have HB := n1_
                        clear n0_ n1_
                        (try clear hb)
                        (try clear hb2)
                        (try clear hk)
                        (try clear hi)
                        refine hK.out _ _ ⟨(blk_cell BK262.out 0).trans rfl, (blk_cell BK262.out 1).trans rfl, (blk_cell BK262.out 2).trans rfl, (blk_cell BK262.out 3).trans rfl, ((HB.out.cell (World.block_lt_of_cell? w _ hw273_0)).trans hw273_0)⟩ (fun hHeld => ?_)
                        clear hK K
                        refine norm_ (a' := ?_) ?_ ?_
                        rotate_left
                        · show Act.put _ (some 48) _ = _
                          simp only [Act.put, List.setIfInBounds_toArray, List.set_cons_zero, List.set_cons_succ, i64_w, i32_w]
                          rfl
                        refine pure_ (i := 2) (N := some 49) (v := ?_) (a' := ?_) #[true, true, true, false, false, false, false, false, false, false, false] rfl rfl (any_of HT_.out (by kernel_rfl)) (fun _ _ _ h => h) (Or.inl ⟨by rfl, ?_⟩) ?_ ?_
                        rotate_left
                        · intro w'
                          go_simp
                          with_reducible rfl
                        rotate_left
                        · simp only [Act.put, List.setIfInBounds_toArray, List.set_cons_zero, List.set_cons_succ, i64_w, i32_w]
                          rfl
                        refine pure_ (i := 5) (N := some 52) (v := ?_) (a' := ?_) #[true, true, true, false, false, true, false, false, false, false, false] rfl rfl (any_of HT_.out (by kernel_rfl)) (fun _ _ _ h => h) (Or.inl ⟨by rfl, ?_⟩) ?_ ?_
                        rotate_left
                        · intro w'
                          go_simp
                          with_reducible rfl
                        rotate_left
                        · simp only [Act.put, List.setIfInBounds_toArray, List.set_cons_zero, List.set_cons_succ, i64_w, i32_w]
                          rfl
                        refine pure_ (i := 6) (N := some 53) (v := ?_) (a' := ?_) #[true, true, true, false, false, true, true, false, false, false, false] rfl rfl (any_of HT_.out (by kernel_rfl)) (fun _ _ _ h => h) (Or.inl ⟨by rfl, ?_⟩) ?_ ?_
                        rotate_left
                        · intro w'
                          go_simp
                          with_reducible rfl
                        rotate_left
                        · simp only [Act.put, List.setIfInBounds_toArray, List.set_cons_zero, List.set_cons_succ, i64_w, i32_w]
                          rfl
                        refine pure_ (i := 7) (N := some 54) (v := ?_) (a' := ?_) #[true, true, true, false, false, true, true, true, false, false, false] rfl rfl (any_of HT_.out (by kernel_rfl)) (fun _ _ _ h => h) (Or.inl ⟨by rfl, ?_⟩) ?_ ?_
                        rotate_left
                        · intro w'
                          go_simp
                          with_reducible rfl
                        rotate_left
                        · simp only [Act.put, List.setIfInBounds_toArray, List.set_cons_zero, List.set_cons_succ, i64_w, i32_w]
                          rfl
                        refine take_ (i := 3) (N := some 50) (v := ?_) (a' := ?_) #[true, true, true, true, false, true, true, true, false, false, false] rfl rfl (take_ofW HT_.out HW_.out (by kernel_rfl)) (fun _ _ _ h => h) (Or.inl ⟨by rfl, ?_⟩) hHeld ?_ ?_
                        rotate_left
                        · rintro w' ⟨s0, s1, s2, s3, s4⟩
                          go_simp
                          with_reducible rfl
                        rotate_left
                        · simp only [Act.put, List.setIfInBounds_toArray, List.set_cons_zero, List.set_cons_succ, i64_w, i32_w]
                          rfl
                        refine take_ (i := 8) (N := some 55) (v := ?_) (a' := ?_) #[true, true, true, true, false, true, true, true, true, false, false] rfl rfl (take_ofW HT_.out HW_.out (by kernel_rfl)) (fun _ _ _ h => h) (Or.inl ⟨by rfl, ?_⟩) hHeld ?_ ?_
                        rotate_left
                        · rintro w' ⟨s0, s1, s2, s3, s4⟩
                          go_simp
                          with_reducible rfl
                        rotate_left
                        · simp only [Act.put, List.setIfInBounds_toArray, List.set_cons_zero, List.set_cons_succ, i64_w, i32_w]
                          rfl
                        refine one_ (i := 4) (N := some 51) #[true, true, true, true, true, true, true, true, true, false, false] rfl rfl (one_of HT_.out (by kernel_rfl)) (by decide) (fun K hK => ?_)
                        refine goes_ Try.func24 (by kernel_rfl) rfl #[.agg #[.bool t267, .int .i64 t268, .int .i64 t269, .bool t270]] (by rfl) rfl rfl (by (try simp only [List.map_toArray, List.map_cons, List.map_nil]); first | done | rfl | (simp only [List.length_drop, List.length_take]; rfl)) ?_
                        with_reducible refine (axle_On.calls t267 t268 t269 t270 t272 _ A31.out).mono ?_
                        rintro e w35 ⟨rfl, hb⟩
                        refine ⟨_, rfl, ?_⟩
                        have n0_ := Aside0.mk (blk_below (g := gb262) (o := .cells #[.bool t267, .int .i64 t268, .int .i64 t269, .bool t270] 34 (0, 0)) (by (with_reducible repeat (first | refine blk_drewN ?_ _ | refine blk_drew ?_ | refine blk_alloc ?_ _)); exact BK262.out) hb)
                        have n1_ := Aside0.mk (below_step (by repeat (first | (with_reducible first | exact HB.out | apply below_alloc | apply pw_below_drewN | apply below_drew1 | refine below_set ?_ GE262.out) | exact HB.out)) hb)
                        clear BK262
                        clear HB
                        have BK262 := n0_
                        have HB := n1_
                        clear n0_ n1_
                        (try clear hb)
                        (try clear hb2)
                        (try clear hk)
                        (try clear hi)
                        refine hK.out _ _ ⟨(blk_cell BK262.out 0).trans rfl, (blk_cell BK262.out 1).trans rfl, (blk_cell BK262.out 2).trans rfl, (blk_cell BK262.out 3).trans rfl, ((HB.out.cell (World.block_lt_of_cell? w _ hw273_0)).trans hw273_0)⟩ (fun hHeld => ?_)
                        clear hK K
                        refine norm_ (a' := ?_) ?_ ?_
                        rotate_left
                        · show Act.put _ (some 51) _ = _
                          simp only [Act.put, List.setIfInBounds_toArray, List.set_cons_zero, List.set_cons_succ, i64_w, i32_w]
                          rfl
                        refine pure_ (i := 9) (N := some 56) (v := ?_) (a' := ?_) #[true, true, true, true, true, true, true, true, true, true, false] rfl rfl (any_of HT_.out (by kernel_rfl)) (fun _ _ _ h => h) (Or.inl ⟨by rfl, ?_⟩) ?_ ?_
                        rotate_left
                        · intro w'
                          go_simp
                          with_reducible rfl
                        rotate_left
                        · simp only [Act.put, List.setIfInBounds_toArray, List.set_cons_zero, List.set_cons_succ, i64_w, i32_w]
                          rfl
                        refine pure_ (i := 10) (N := some 57) (v := ?_) (a' := ?_) #[true, true, true, true, true, true, true, true, true, true, true] rfl rfl (any_of HT_.out (by kernel_rfl)) (fun _ _ _ h => h) (Or.inl ⟨by rfl, ?_⟩) ?_ ?_
                        rotate_left
                        · intro w'
                          go_simp
                          with_reducible rfl
                        rotate_left
                        · simp only [Act.put, List.setIfInBounds_toArray, List.set_cons_zero, List.set_cons_succ, i64_w, i32_w]
                          rfl
                        refine done_ (done_of HT_.out (by kernel_rfl)) ?_
                        try go_wp2
                        go_meet
                        case rel => exact ⟨_, ((t272 != (rd l1 x8_1))), (by first | rfl | (simp; done) | (simp [*]; done)), H', ⟨by have := HK1.out; have := HJ11.out; first | omega | exact Nat.le_refl _⟩, ⟨by (with_reducible repeat (first | refine blk_drewN ?_ _ | refine blk_drew ?_ | refine blk_alloc ?_ _)); exact BK262.out⟩, ⟨by repeat (first | (with_reducible first | exact HB.out | apply below_alloc | apply pw_below_drewN | apply below_drew1 | refine below_set ?_ GE262.out) | exact HB.out)⟩⟩
                    case rest =>
                      clear HC19
                      try clear c1
                      try clear c2
                      try clear p2
                      try clear q2
                      try clear hx2
                      try clear c4
                      try clear c4b0
                      try clear c4b1
                      try clear p6
                      try clear c11
                      try clear c11b0
                      try clear c13
                      try clear c13b0
                      try clear c14
                      try clear c14b0
                      try clear c15
                      try clear c16
                      try clear c16b0
                      try clear c17
                      try clear c17b0
                      try clear c21
                      try clear c22
                      try clear c24
                      try clear c26
                      try clear p26
                      try clear q26
                      try clear hx26
                      try clear c27
                      try clear p27
                      try clear q27
                      try clear hx27
                      try clear hcz10_0
                      try clear hcz10_1
                      try clear hcz10_2
                      try clear hcz10_3
                      try clear hfz10_0
                      try clear hfz10_1
                      try clear hfz10_2
                      try clear hfz10_3
                      try clear hx264_0
                      try clear hx265_0
                      try clear hx266_0
                      try clear hx273_0
                      try clear p2
                      try clear p264
                      try clear p265
                      try clear p266
                      try clear p273
                      try clear q2
                      try clear q264
                      try clear q265
                      try clear q266
                      try clear q273
                      obtain ⟨kq, x57_18, rfl, HA, HJ18, BK262, HB⟩ := hcut
                      cases kq with
                      | zero => exact absurd HA.out (by simp [crossbucklaw11_AxleTrains.j2])
                      | succ kj18 =>
                        have H := HA.out
                        clear HA
                        simp only [crossbucklaw11_AxleTrains.j2] at H
                        by_cases c36 : x57_18 = true
                        · subst c36
                          have H1 : (some false) = some r := by rw [if_pos rfl] at H; exact H
                          clear H
                          have H := H1
                          clear H1
                          obtain rfl := Option.some.inj H
                          go_wp2
                          go_ret
                          exact ⟨by first | rfl | (simp [errW_none, errW_some] <;> rfl) | (simp [*, errW_none, errW_some] <;> rfl), by repeat (first | (with_reducible first | exact HB.out | apply below_alloc | apply pw_below_drewN | apply below_drew1 | refine below_set ?_ GE262.out) | exact HB.out)⟩
                        · replace c36 := Bool.eq_false_iff.mpr c36
                          subst c36
                          have H1 : (if 0 ≤ x8_1 then (if x8_1 < (l1.length : Int) then ((axle_Step.f t267 t268 t269 t270 (wrap64 (x6_1 + (rd l1 x8_1))) (wrap64 (x6_1 + (rd l1 x8_1)))).bind fun bt275 => ((axle_Clear.f bt275.1 bt275.2.1 bt275.2.2.1 bt275.2.2.2).bind fun t279 => (if t279 = true then (crossbucklaw11_AxleTrains.l0 kj18 l1 t257 (wrap64 (x6_1 + (rd l1 x8_1))) (wrap64 (x8_1 + 1)) bt275.1 bt275.2.1 bt275.2.2.1 bt275.2.2.2) else (some false)))) else (none)) else (none)) = some r := by rw [if_neg (show ¬ (false = true) by decide)] at H; exact H
                          clear H
                          have H := H1
                          clear H1
                          by_cases c37 : 0 ≤ x8_1
                          · rw [if_pos c37] at H
                            have c37b0 : decide (0 ≤ x8_1) = true := decide_eq_true c37
                            clear c37
                            by_cases c38 : x8_1 < (l1.length : Int)
                            · rw [if_pos c38] at H
                              have c38b0 : decide (x8_1 < (l1.length : Int)) = true := decide_eq_true c38
                              clear c38
                              replace H := Option.bind_eq_some_iff.mp H
                              obtain ⟨⟨t275, t276, t277, t278⟩, A390, H⟩ := H
                              replace H : ((axle_Clear.f t275 t276 t277 t278).bind fun t279 => (if t279 = true then (crossbucklaw11_AxleTrains.l0 kj18 l1 t257 (wrap64 (x6_1 + (rd l1 x8_1))) (wrap64 (x8_1 + 1)) t275 t276 t277 t278) else (some false))) = some r := H
                              have A39 := Aside0.mk A390
                              clear A390
                              replace H := Option.bind_eq_some_iff.mp H
                              obtain ⟨t279, A400, H⟩ := H
                              replace H : (if t279 = true then (crossbucklaw11_AxleTrains.l0 kj18 l1 t257 (wrap64 (x6_1 + (rd l1 x8_1))) (wrap64 (x8_1 + 1)) t275 t276 t277 t278) else (some false)) = some r := H
                              have A40 := Aside0.mk A400
                              clear A400
                              by_cases c41 : t279 = true
                              · subst c41
                                have H1 : (crossbucklaw11_AxleTrains.l0 kj18 l1 t257 (wrap64 (x6_1 + (rd l1 x8_1))) (wrap64 (x8_1 + 1)) t275 t276 t277 t278) = some r := by rw [if_pos rfl] at H; exact H
                                clear H
                                have H := H1
                                clear H1
                                have H' := Aside0.mk H
                                clear H
                                have p274 : 0 ≤ (x8_1 : Int) := of_decide_eq_true (by first | (with_reducible assumption) | assumption)
                                have q274 : x8_1 < (l1.length : Int) := of_decide_eq_true (by first | (with_reducible assumption) | assumption)
                                obtain ⟨ad274, e274, hx274_0⟩ := Kd.at_int HR1.out x8_1 p274 q274
                                obtain rfl : ad266 = ad274 := (by injection e274)
                                replace hx274_0 := (HB.out.cell (World.block_lt_of_cell? w _ hx274_0)).trans hx274_0
                                replace p274 := eq_true p274
                                replace q274 := eq_true q274
                                have hcz42_0 : wc.cell? ⟨gb262, 0, none⟩ = some (.bool t267) := (blk_cell BK262.out 0).trans rfl
                                have hcz42_1 : wc.cell? ⟨gb262, 1, none⟩ = some (.int .i64 t268) := (blk_cell BK262.out 1).trans rfl
                                have hcz42_2 : wc.cell? ⟨gb262, 2, none⟩ = some (.int .i64 t269) := (blk_cell BK262.out 2).trans rfl
                                have hcz42_3 : wc.cell? ⟨gb262, 3, none⟩ = some (.bool t270) := (blk_cell BK262.out 3).trans rfl
                                have hfz42_0 := blk_frozen BK262.out 0
                                have hfz42_1 := blk_frozen BK262.out 1
                                have hfz42_2 := blk_frozen BK262.out 2
                                have hfz42_3 := blk_frozen BK262.out 3
                                go_wp2_with (first | ((with_reducible refine gate_callee (f := 22) rfl ?_); refine goesL_ (some 67) rfl rfl Try.func22 (by kernel_rfl) rfl #[.agg #[.bool t267, .int .i64 t268, .int .i64 t269, .bool t270], .int .i64 (wrap64 (x6_1 + (rd l1 x8_1))), .int .i64 (wrap64 (x6_1 + (rd l1 x8_1)))] rfl (by (try simp only [List.map_toArray, List.map_cons, List.map_nil]); first | done | rfl | (simp only [List.length_drop, List.length_take]; rfl)) ?_; (with_reducible refine (axle_Step.calls t267 t268 t269 t270 (wrap64 (x6_1 + (rd l1 x8_1))) (wrap64 (x6_1 + (rd l1 x8_1))) t275 t276 t277 t278 _ A39.out).mono ?_); rintro e w43 ⟨rfl, hb⟩; refine ⟨_, rfl, ?_⟩; have n0_ := Aside0.mk (blk_below (g := gb262) (o := .cells #[.bool t267, .int .i64 t268, .int .i64 t269, .bool t270] 34 (0, 0)) (by (with_reducible repeat (first | refine blk_drewN ?_ _ | refine blk_drew ?_ | refine blk_alloc ?_ _)); exact BK262.out) hb); have n1_ := Aside0.mk (below_step (by repeat (first | (with_reducible first | exact HB.out | apply below_alloc | apply pw_below_drewN | apply below_drew1 | refine below_set ?_ GE262.out) | exact HB.out)) hb); clear BK262; clear HB; have BK262 := n0_; have HB := n1_; clear n0_ n1_; (try clear hb); (try clear hb2); (try clear hk); (try clear hi); have hcz44_0 : w43.cell? ⟨gb262, 0, none⟩ = some (.bool t267) := (blk_cell BK262.out 0).trans rfl; have hcz44_1 : w43.cell? ⟨gb262, 1, none⟩ = some (.int .i64 t268) := (blk_cell BK262.out 1).trans rfl; have hcz44_2 : w43.cell? ⟨gb262, 2, none⟩ = some (.int .i64 t269) := (blk_cell BK262.out 2).trans rfl; have hcz44_3 : w43.cell? ⟨gb262, 3, none⟩ = some (.bool t270) := (blk_cell BK262.out 3).trans rfl; have hfz44_0 := blk_frozen BK262.out 0; have hfz44_1 := blk_frozen BK262.out 1; have hfz44_2 := blk_frozen BK262.out 2; have hfz44_3 := blk_frozen BK262.out 3) | ((with_reducible refine gate_callee (f := 26) rfl ?_); refine goesL_ (some 69) rfl rfl Try.func26 (by kernel_rfl) rfl #[.agg #[.bool t275, .int .i64 t276, .int .i64 t277, .bool t278]] rfl (by (try simp only [List.map_toArray, List.map_cons, List.map_nil]); first | done | rfl | (simp only [List.length_drop, List.length_take]; rfl)) ?_; (with_reducible refine (axle_Clear.calls t275 t276 t277 t278 true _ A40.out).mono ?_); rintro e w45 ⟨rfl, hb⟩; refine ⟨_, rfl, ?_⟩; have n0_ := Aside0.mk (blk_below (g := gb262) (o := .cells #[.bool t275, .int .i64 t276, .int .i64 t277, .bool t278] 34 (0, 0)) (by (with_reducible repeat (first | refine blk_drewN ?_ _ | refine blk_drew ?_ | refine blk_alloc ?_ _)); refine blk_put (cs := #[.bool t275, .int .i64 t276, .int .i64 t277, .bool t270]) ?_ 3 _ rfl; (with_reducible repeat (first | refine blk_drewN ?_ _ | refine blk_drew ?_ | refine blk_alloc ?_ _)); refine blk_put (cs := #[.bool t275, .int .i64 t276, .int .i64 t269, .bool t270]) ?_ 2 _ rfl; (with_reducible repeat (first | refine blk_drewN ?_ _ | refine blk_drew ?_ | refine blk_alloc ?_ _)); refine blk_put (cs := #[.bool t275, .int .i64 t268, .int .i64 t269, .bool t270]) ?_ 1 _ rfl; (with_reducible repeat (first | refine blk_drewN ?_ _ | refine blk_drew ?_ | refine blk_alloc ?_ _)); refine blk_put (cs := #[.bool t267, .int .i64 t268, .int .i64 t269, .bool t270]) ?_ 0 _ rfl; (with_reducible repeat (first | refine blk_drewN ?_ _ | refine blk_drew ?_ | refine blk_alloc ?_ _)); exact BK262.out) hb); have n1_ := Aside0.mk (below_step (by repeat (first | (with_reducible first | exact HB.out | apply below_alloc | apply pw_below_drewN | apply below_drew1 | refine below_set ?_ GE262.out) | exact HB.out)) hb); clear BK262; clear HB; have BK262 := n0_; have HB := n1_; clear n0_ n1_; (try clear hb); (try clear hb2); (try clear hk); (try clear hi)))
                                go_roundg kj18
                                case measure => have := HK1.out; have := HJ11.out; have := HJ18.out; omega
                                case rel => exact ⟨(wrap64 (x6_1 + (rd l1 x8_1))), (wrap64 (x8_1 + 1)), (t275), (t276), (t277), (t278), (by first | rfl | (simp; done) | (simp [*]; done)), (by first | rfl | (simp; done) | (simp [*]; done)), H', ⟨by have := HK1.out; have := HJ11.out; have := HJ18.out; omega⟩, ⟨by (with_reducible repeat (first | refine blk_drewN ?_ _ | refine blk_drew ?_ | refine blk_alloc ?_ _)); exact BK262.out⟩, ⟨by repeat (first | (with_reducible first | exact HB.out | apply below_alloc | apply pw_below_drewN | apply below_drew1 | refine below_set ?_ GE262.out) | exact HB.out)⟩⟩
                              · replace c41 := Bool.eq_false_iff.mpr c41
                                subst c41
                                have H1 : (some false) = some r := by rw [if_neg (show ¬ (false = true) by decide)] at H; exact H
                                clear H
                                have H := H1
                                clear H1
                                obtain rfl := Option.some.inj H
                                have p274 : 0 ≤ (x8_1 : Int) := of_decide_eq_true (by first | (with_reducible assumption) | assumption)
                                have q274 : x8_1 < (l1.length : Int) := of_decide_eq_true (by first | (with_reducible assumption) | assumption)
                                obtain ⟨ad274, e274, hx274_0⟩ := Kd.at_int HR1.out x8_1 p274 q274
                                obtain rfl : ad266 = ad274 := (by injection e274)
                                replace hx274_0 := (HB.out.cell (World.block_lt_of_cell? w _ hx274_0)).trans hx274_0
                                replace p274 := eq_true p274
                                replace q274 := eq_true q274
                                have hcz46_0 : wc.cell? ⟨gb262, 0, none⟩ = some (.bool t267) := (blk_cell BK262.out 0).trans rfl
                                have hcz46_1 : wc.cell? ⟨gb262, 1, none⟩ = some (.int .i64 t268) := (blk_cell BK262.out 1).trans rfl
                                have hcz46_2 : wc.cell? ⟨gb262, 2, none⟩ = some (.int .i64 t269) := (blk_cell BK262.out 2).trans rfl
                                have hcz46_3 : wc.cell? ⟨gb262, 3, none⟩ = some (.bool t270) := (blk_cell BK262.out 3).trans rfl
                                have hfz46_0 := blk_frozen BK262.out 0
                                have hfz46_1 := blk_frozen BK262.out 1
                                have hfz46_2 := blk_frozen BK262.out 2
                                have hfz46_3 := blk_frozen BK262.out 3
                                go_wp2_with (first | ((with_reducible refine gate_callee (f := 22) rfl ?_); refine goesL_ (some 67) rfl rfl Try.func22 (by kernel_rfl) rfl #[.agg #[.bool t267, .int .i64 t268, .int .i64 t269, .bool t270], .int .i64 (wrap64 (x6_1 + (rd l1 x8_1))), .int .i64 (wrap64 (x6_1 + (rd l1 x8_1)))] rfl (by (try simp only [List.map_toArray, List.map_cons, List.map_nil]); first | done | rfl | (simp only [List.length_drop, List.length_take]; rfl)) ?_; (with_reducible refine (axle_Step.calls t267 t268 t269 t270 (wrap64 (x6_1 + (rd l1 x8_1))) (wrap64 (x6_1 + (rd l1 x8_1))) t275 t276 t277 t278 _ A39.out).mono ?_); rintro e w47 ⟨rfl, hb⟩; refine ⟨_, rfl, ?_⟩; have n0_ := Aside0.mk (blk_below (g := gb262) (o := .cells #[.bool t267, .int .i64 t268, .int .i64 t269, .bool t270] 34 (0, 0)) (by (with_reducible repeat (first | refine blk_drewN ?_ _ | refine blk_drew ?_ | refine blk_alloc ?_ _)); exact BK262.out) hb); have n1_ := Aside0.mk (below_step (by repeat (first | (with_reducible first | exact HB.out | apply below_alloc | apply pw_below_drewN | apply below_drew1 | refine below_set ?_ GE262.out) | exact HB.out)) hb); clear BK262; clear HB; have BK262 := n0_; have HB := n1_; clear n0_ n1_; (try clear hb); (try clear hb2); (try clear hk); (try clear hi); have hcz48_0 : w47.cell? ⟨gb262, 0, none⟩ = some (.bool t267) := (blk_cell BK262.out 0).trans rfl; have hcz48_1 : w47.cell? ⟨gb262, 1, none⟩ = some (.int .i64 t268) := (blk_cell BK262.out 1).trans rfl; have hcz48_2 : w47.cell? ⟨gb262, 2, none⟩ = some (.int .i64 t269) := (blk_cell BK262.out 2).trans rfl; have hcz48_3 : w47.cell? ⟨gb262, 3, none⟩ = some (.bool t270) := (blk_cell BK262.out 3).trans rfl; have hfz48_0 := blk_frozen BK262.out 0; have hfz48_1 := blk_frozen BK262.out 1; have hfz48_2 := blk_frozen BK262.out 2; have hfz48_3 := blk_frozen BK262.out 3) | ((with_reducible refine gate_callee (f := 26) rfl ?_); refine goesL_ (some 69) rfl rfl Try.func26 (by kernel_rfl) rfl #[.agg #[.bool t275, .int .i64 t276, .int .i64 t277, .bool t278]] rfl (by (try simp only [List.map_toArray, List.map_cons, List.map_nil]); first | done | rfl | (simp only [List.length_drop, List.length_take]; rfl)) ?_; (with_reducible refine (axle_Clear.calls t275 t276 t277 t278 false _ A40.out).mono ?_); rintro e w49 ⟨rfl, hb⟩; refine ⟨_, rfl, ?_⟩; have n0_ := Aside0.mk (blk_below (g := gb262) (o := .cells #[.bool t275, .int .i64 t276, .int .i64 t277, .bool t278] 34 (0, 0)) (by (with_reducible repeat (first | refine blk_drewN ?_ _ | refine blk_drew ?_ | refine blk_alloc ?_ _)); refine blk_put (cs := #[.bool t275, .int .i64 t276, .int .i64 t277, .bool t270]) ?_ 3 _ rfl; (with_reducible repeat (first | refine blk_drewN ?_ _ | refine blk_drew ?_ | refine blk_alloc ?_ _)); refine blk_put (cs := #[.bool t275, .int .i64 t276, .int .i64 t269, .bool t270]) ?_ 2 _ rfl; (with_reducible repeat (first | refine blk_drewN ?_ _ | refine blk_drew ?_ | refine blk_alloc ?_ _)); refine blk_put (cs := #[.bool t275, .int .i64 t268, .int .i64 t269, .bool t270]) ?_ 1 _ rfl; (with_reducible repeat (first | refine blk_drewN ?_ _ | refine blk_drew ?_ | refine blk_alloc ?_ _)); refine blk_put (cs := #[.bool t267, .int .i64 t268, .int .i64 t269, .bool t270]) ?_ 0 _ rfl; (with_reducible repeat (first | refine blk_drewN ?_ _ | refine blk_drew ?_ | refine blk_alloc ?_ _)); exact BK262.out) hb); have n1_ := Aside0.mk (below_step (by repeat (first | (with_reducible first | exact HB.out | apply below_alloc | apply pw_below_drewN | apply below_drew1 | refine below_set ?_ GE262.out) | exact HB.out)) hb); clear BK262; clear HB; have BK262 := n0_; have HB := n1_; clear n0_ n1_; (try clear hb); (try clear hb2); (try clear hk); (try clear hi)))
                                go_ret
                                exact ⟨by first | rfl | (simp [errW_none, errW_some] <;> rfl) | (simp [*, errW_none, errW_some] <;> rfl), by repeat (first | (with_reducible first | exact HB.out | apply below_alloc | apply pw_below_drewN | apply below_drew1 | refine below_set ?_ GE262.out) | exact HB.out)⟩
                            · rw [if_neg c38] at H
                              exact absurd H (by simp)
                          · rw [if_neg c37] at H
                            exact absurd H (by simp)
                  · rw [if_neg c17] at H
                    exact absurd H (by simp)
                · rw [if_neg c16] at H
                  exact absurd H (by simp)
        · rw [if_neg c11] at H
          have c11b0 : decide (x8_1 < (l1.length : Int)) = false := decide_eq_false c11
          clear c11
          by_cases c50 : t257 = true
          · subst c50
            have H1 : ((axle_Clear.f x263000_1 x263001_1 x263002_1 x263003_1).bind fun t263 => (some t263)) = some r := by rw [if_pos rfl] at H; exact H
            clear H
            have H := H1
            clear H1
            replace H := Option.bind_eq_some_iff.mp H
            obtain ⟨t263, A510, H⟩ := H
            replace H : (some t263) = some r := H
            have A51 := Aside0.mk A510
            clear A510
            obtain rfl := Option.some.inj H
            have hcz52_0 : wr.cell? ⟨gb262, 0, none⟩ = some (.bool x263000_1) := (blk_cell BK262.out 0).trans rfl
            have hcz52_1 : wr.cell? ⟨gb262, 1, none⟩ = some (.int .i64 x263001_1) := (blk_cell BK262.out 1).trans rfl
            have hcz52_2 : wr.cell? ⟨gb262, 2, none⟩ = some (.int .i64 x263002_1) := (blk_cell BK262.out 2).trans rfl
            have hcz52_3 : wr.cell? ⟨gb262, 3, none⟩ = some (.bool x263003_1) := (blk_cell BK262.out 3).trans rfl
            have hfz52_0 := blk_frozen BK262.out 0
            have hfz52_1 := blk_frozen BK262.out 1
            have hfz52_2 := blk_frozen BK262.out 2
            have hfz52_3 := blk_frozen BK262.out 3
            go_wp2_with (first | (go_at_call 26; (with_reducible refine (axle_Clear.calls x263000_1 x263001_1 x263002_1 x263003_1 t263 _ A51.out).mono ?_); rintro e w53 ⟨rfl, hb⟩; have n0_ := Aside0.mk (blk_below (g := gb262) (o := .cells #[.bool x263000_1, .int .i64 x263001_1, .int .i64 x263002_1, .bool x263003_1] 34 (0, 0)) (by (with_reducible repeat (first | refine blk_drewN ?_ _ | refine blk_drew ?_ | refine blk_alloc ?_ _)); exact BK262.out) hb); have n1_ := Aside0.mk (below_step (by repeat (first | (with_reducible first | exact HB.out | apply below_alloc | apply pw_below_drewN | apply below_drew1 | refine below_set ?_ GE262.out) | exact HB.out)) hb); clear BK262; clear HB; have BK262 := n0_; have HB := n1_; clear n0_ n1_; (try clear hb); (try clear hb2); (try clear hk); (try clear hi)))
            go_ret
            exact ⟨by first | rfl | (simp [errW_none, errW_some] <;> rfl) | (simp [*, errW_none, errW_some] <;> rfl), by repeat (first | (with_reducible first | exact HB.out | apply below_alloc | apply pw_below_drewN | apply below_drew1 | refine below_set ?_ GE262.out) | exact HB.out)⟩
          · replace c50 := Bool.eq_false_iff.mpr c50
            subst c50
            have H1 : (some false) = some r := by rw [if_neg (show ¬ (false = true) by decide)] at H; exact H
            clear H
            have H := H1
            clear H1
            obtain rfl := Option.some.inj H
            go_wp2
            go_ret
            exact ⟨by first | rfl | (simp [errW_none, errW_some] <;> rfl) | (simp [*, errW_none, errW_some] <;> rfl), by repeat (first | (with_reducible first | exact HB.out | apply below_alloc | apply pw_below_drewN | apply below_drew1 | refine below_set ?_ GE262.out) | exact HB.out)⟩

end Go.Proofs.Ytdnokmlonahmnaa.A
