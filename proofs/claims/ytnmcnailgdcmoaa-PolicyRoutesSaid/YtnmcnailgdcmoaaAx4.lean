/- Each function's own law: what the call answers, as a plain Lean function; a text that a program of this session wrote. -/
import Derived.Test.YtnmcnailgdcmoaaAx0
import Derived.Test.YtnmcnailgdcmoaaAx3
namespace Go.Proofs.Ytnmcnailgdcmoaa.A
open Go.RowKit Go.Proofs.YtnmcnailgdcmoaaW.PrintWords Go.Proofs.YtnmcnailgdcmoaaW.PrintLast Go.Proofs.YtnmcnailgdcmoaaW.PrintMore
attribute [local go_sem] max2_int min2_int max_two min_two max_three min_three max_four min_four   -- for this text's walks alone
set_option linter.unusedVariables false
set_option linter.unusedSimpArgs false

/-! ### crossbuckref23_Restart: function 17 -/
mutual
def crossbuckref23_Restart.l0 : Nat → Bool → Int → List (S31) → Int → Int → Int → Int → Option (Int × Int × (List (S31)))
  | 0, _, _, _, _, _, _, _ => none
  | k + 1, x1, x2, x8, x9, x132000, x132001, x132002 => if x9 < (mn x2 8) then (if x1 = true then (if 0 ≤ (IntKind.u64.wrap (x9)) then (if x8.length < 1759218604441 then (crossbuckref23_Restart.l0 k x1 x2 (x8 ++ [(⟨(⟨false, 0, 0, ((Go.bits .and .i64 (shr .i64 x132001 (IntKind.u64.wrap (x9))) 1) == 1)⟩ : S27), (⟨0, 0, ((Go.bits .and .i64 (shr .i64 x132002 (IntKind.u64.wrap (x9))) 1) == 1)⟩ : S29), false, 0, false, false⟩ : S31)]) (wrap64 (x9 + 1)) x132000 x132001 x132002) else (none)) else (none)) else (if x8.length < 1759218604441 then (crossbuckref23_Restart.l0 k x1 x2 (x8 ++ [(⟨(⟨false, 0, 0, false⟩ : S27), (⟨0, 0, false⟩ : S29), false, 0, false, false⟩ : S31)]) (wrap64 (x9 + 1)) x132000 x132001 x132002) else (none))) else (if x1 = true then (if x132000 < 0 then (crossbuckref23_Restart.j1 k x8 true x132000 x132001 x132002) else (crossbuckref23_Restart.j1 k x8 (decide (x132000 > 6)) x132000 x132001 x132002)) else (crossbuckref23_Restart.j1 k x8 true x132000 x132001 x132002))
def crossbuckref23_Restart.j1 : Nat → List (S31) → Bool → Int → Int → Int → Option (Int × Int × (List (S31)))
  | 0, _, _, _, _, _ => none
  | k + 1, x8, x51, x132000, x132001, x132002 => if x51 = true then ((crossbuckref20_Enter.f 3).bind fun bt140 => (some (bt140.1, bt140.2, x8))) else (if x132000 = 0 then ((crossbuckref20_Enter.f 6).bind fun bt142 => (some (bt142.1, bt142.2, x8))) else ((crossbuckref20_Enter.f x132000).bind fun bt144 => (some (bt144.1, bt144.2, x8))))
end
def crossbuckref23_Restart.f (k : Nat) (a0_0 : Int) (a0_1 : Int) (a0_2 : Int) (a1 : Bool) (a2 : Int) : Option (Int × Int × (List (S31))) := crossbuckref23_Restart.l0 k a1 a2 ([] : List (S31)) 0 a0_0 a0_1 a0_2
theorem crossbuckref23_Restart.mono_l : ∀ k, (∀ y0 y1 y2 y3 y4 y5 y6, LeO (crossbuckref23_Restart.l0 k y0 y1 y2 y3 y4 y5 y6) (crossbuckref23_Restart.l0 (k + 1) y0 y1 y2 y3 y4 y5 y6)) ∧ (∀ y0 y1 y2 y3 y4, LeO (crossbuckref23_Restart.j1 k y0 y1 y2 y3 y4) (crossbuckref23_Restart.j1 (k + 1) y0 y1 y2 y3 y4))
  | 0 => ⟨fun _ _ _ _ _ _ _ r h => by simp [crossbuckref23_Restart.l0] at h, fun _ _ _ _ _ r h => by simp [crossbuckref23_Restart.j1] at h⟩
  | k + 1 => by
    obtain ⟨ih0, ih1⟩ := crossbuckref23_Restart.mono_l k
    refine ⟨?_, ?_⟩
    · intro y0 y1 y2 y3 y4 y5 y6
      unfold crossbuckref23_Restart.l0
      repeat' first
      | (with_reducible exact ih0 _ _ _ _ _ _ _)
      | (with_reducible exact ih1 _ _ _ _ _)
      | (with_reducible exact LeO.refl _)
      | (with_reducible exact LeO.none _)
      | (with_reducible refine LeO.ite ?_ ?_)
      | (with_reducible refine LeO.bind ?_ (fun _ => ?_))
      | exact ih0 _ _ _ _ _ _ _
      | exact ih1 _ _ _ _ _
      | exact LeO.none _
      | refine LeO.ite ?_ ?_
      | refine LeO.bind ?_ (fun _ => ?_)
    · intro y0 y1 y2 y3 y4
      unfold crossbuckref23_Restart.j1
      repeat' first
      | (with_reducible exact ih0 _ _ _ _ _ _ _)
      | (with_reducible exact ih1 _ _ _ _ _)
      | (with_reducible exact LeO.refl _)
      | (with_reducible exact LeO.none _)
      | (with_reducible refine LeO.ite ?_ ?_)
      | (with_reducible refine LeO.bind ?_ (fun _ => ?_))
      | exact ih0 _ _ _ _ _ _ _
      | exact ih1 _ _ _ _ _
      | exact LeO.none _
      | refine LeO.ite ?_ ?_
      | refine LeO.bind ?_ (fun _ => ?_)
theorem crossbuckref23_Restart.mono : ∀ a0 a1 a2 a3 a4 k, LeO (crossbuckref23_Restart.f k a0 a1 a2 a3 a4) (crossbuckref23_Restart.f (k + 1) a0 a1 a2 a3 a4) := by
  intro a0 a1 a2 a3 a4 k
  obtain ⟨ih0, ih1⟩ := crossbuckref23_Restart.mono_l k
  unfold crossbuckref23_Restart.f
  repeat' first
      | (with_reducible exact ih0 _ _ _ _ _ _ _)
      | (with_reducible exact ih1 _ _ _ _ _)
      | (with_reducible exact LeO.refl _)
      | (with_reducible exact LeO.none _)
      | (with_reducible refine LeO.ite ?_ ?_)
      | (with_reducible refine LeO.bind ?_ (fun _ => ?_))
      | exact ih0 _ _ _ _ _ _ _
      | exact ih1 _ _ _ _ _
      | exact LeO.none _
      | refine LeO.ite ?_ ?_
      | refine LeO.bind ?_ (fun _ => ?_)
set_option maxHeartbeats 8000000 in
set_option maxRecDepth 100000 in
theorem crossbuckref23_Restart.calls (k : Nat) (a0_0 : Int) (a0_1 : Int) (a0_2 : Int) (a1 : Bool) (a2 : Int) (r1 : Int) (r2 : Int) (r3 : List (S31)) (w : World) (h : crossbuckref23_Restart.f k a0_0 a0_1 a0_2 a1 a2 = some (r1, r2, r3)) :
    Calls Try.prog 17 #[.agg #[.int .i64 a0_0, .int .i64 a0_1, .int .i64 a0_2], .bool a1, .int .i64 a2] w fun e w' => ∃ v2_ : Value, e = .returned (.tuple #[.agg #[.int .i64 r1, .int .i64 r2], v2_]) ∧ Kd.R k31 31 w' w.heap.size (fun _ => True) v2_ r3 ∧ Below w.heap.size w w' := by
  have hu48 := Try.underlying48
  have hu46 := Try.underlying46
  have hu31 := Try.underlying31
  have HB := Aside0.mk (Below.refl w.heap.size w)
  have H : (crossbuckref23_Restart.l0 k a1 a2 ([] : List (S31)) 0 a0_0 a0_1 a0_2) = some (r1, r2, r3) := h
  clear h
  have H' := Aside0.mk H
  clear H
  go_enter Try.func17, Try.ntmps17
  go_wp2_with (first | ((with_reducible refine gate_dst (N := 3) rfl ?_); refine box_event ?hg (N := 3) ?hd (cs := #[.int .i64 a0_0, .int .i64 a0_1, .int .i64 a0_2]) (t := 48) ?hr ?_; (case hd => rfl); (case hg => rfl); (case hr => first | (go_simp; done) | (go_simp; rfl)); intro gb131 hg w4 hbox hb; have n0_ := Aside0.mk (below_step (by repeat (first | (with_reducible first | exact HB.out | apply below_alloc | apply pw_below_drewN | apply below_drew1) | exact HB.out)) hb); have n1_ := Aside0.mk (hbox); have n2_ := Aside0.mk ((by rw [hg]; exact (below_size (by repeat (first | (with_reducible first | exact HB.out | apply below_alloc | apply pw_below_drewN | apply below_drew1) | exact HB.out))) : w.heap.size ≤ gb131)); have n3_ := Aside0.mk ((by rw [hg]; exact (below_size (by repeat (first | (with_reducible first | exact HB.out | apply below_alloc | apply pw_below_drewN | apply below_drew1) | exact HB.out))) : w.heap.size ≤ gb131)); clear HB; have HB := n0_; have BK131 := n1_; have GW131 := n2_; have GE131 := n3_; clear n0_ n1_ n2_ n3_; clear hb hbox hg) | ((with_reducible refine gate_dst (N := 6) rfl ?_); refine box_event ?hg (N := 6) ?hd (cs := #[.int .i64 0, .int .i64 0]) (t := 46) ?hr ?_; (case hd => rfl); (case hg => rfl); (case hr => first | (go_simp; done) | (go_simp; rfl)); intro gb132 hg w5 hbox hb; have n0_ := Aside0.mk (blk_below (g := gb131) (o := .cells #[.int .i64 a0_0, .int .i64 a0_1, .int .i64 a0_2] 48 (0, 0)) (by (with_reducible repeat (first | refine blk_drewN ?_ _ | refine blk_drew ?_ | refine blk_alloc ?_ _)); exact BK131.out) hb); have n1_ := Aside0.mk (below_step (by repeat (first | (with_reducible first | exact HB.out | apply below_alloc | apply pw_below_drewN | apply below_drew1 | refine below_set ?_ GE131.out) | exact HB.out)) hb); have n2_ := Aside0.mk (hbox); have n3_ := Aside0.mk ((by rw [hg]; exact (below_size (by repeat (first | (with_reducible first | exact HB.out | apply below_alloc | apply pw_below_drewN | apply below_drew1 | refine below_set ?_ GE131.out) | exact HB.out))) : w.heap.size ≤ gb132)); have n4_ := Aside0.mk ((by rw [hg]; exact (below_size (by repeat (first | (with_reducible first | exact HB.out | apply below_alloc | apply pw_below_drewN | apply below_drew1 | refine below_set ?_ GE131.out) | exact HB.out))) : w.heap.size ≤ gb132)); have n5_ := Aside0.mk ((by rw [hg]; exact Nat.ne_of_lt (blk_lt (g := gb131) (o := .cells #[.int .i64 a0_0, .int .i64 a0_1, .int .i64 a0_2] 48 (0, 0)) (by (with_reducible repeat (first | refine blk_drewN ?_ _ | refine blk_drew ?_ | refine blk_alloc ?_ _)); exact BK131.out)) : gb131 ≠ gb132)); have n6_ := Aside0.mk ((by rw [hg]; exact Nat.ne_of_gt (blk_lt (g := gb131) (o := .cells #[.int .i64 a0_0, .int .i64 a0_1, .int .i64 a0_2] 48 (0, 0)) (by (with_reducible repeat (first | refine blk_drewN ?_ _ | refine blk_drew ?_ | refine blk_alloc ?_ _)); exact BK131.out)) : gb132 ≠ gb131)); clear BK131; clear HB; have BK131 := n0_; have HB := n1_; have BK132 := n2_; have GW132 := n3_; have GE132 := n4_; have NB131_132 := n5_; have NB132_131 := n6_; clear n0_ n1_ n2_ n3_ n4_ n5_ n6_; clear hb hbox hg))
  go_loopg [8, 9] k (fun kq v8 v9 w' => ∃ (x8_1 : List (S31)) (x9_1 : Int), v9 = .int .i64 x9_1 ∧ Aside0 (crossbuckref23_Restart.l0 kq a1 a2 x8_1 x9_1 a0_0 a0_1 a0_2 = some (r1, r2, r3)) ∧ Aside0 (kq ≤ k) ∧ Aside0 (Kd.R k31 31 w' w.heap.size (fun _ => True) v8 x8_1) ∧ Aside0 (w'.heap[gb131]? = some (.cells #[.int .i64 a0_0, .int .i64 a0_1, .int .i64 a0_2] 48 (0, 0))) ∧ Aside0 (w'.heap[gb132]? = some (.cells #[.int .i64 0, .int .i64 0] 46 (0, 0))) ∧ Aside0 (Below w.heap.size w w'))
  case atStart => exact ⟨(([] : List (S31))), (0), (by first | rfl | (simp; done) | (simp [*]; done)), H', ⟨Nat.le_refl _⟩, ⟨by first | exact Kd.R_nil _ _ _ _ _ | exact Kd.N_nil _ _ _ _ _ | exact Kd.V_nil _ _ _ _ _ | exact Kd.Q_nil _ _ _ _ _ | exact Kd.S_nil _ _ _ _ _⟩, ⟨by (with_reducible repeat (first | refine blk_drewN ?_ _ | refine blk_drew ?_ | refine blk_alloc ?_ _)); exact BK131.out⟩, ⟨by (with_reducible repeat (first | refine blk_drewN ?_ _ | refine blk_drew ?_ | refine blk_alloc ?_ _)); exact BK132.out⟩, ⟨by repeat (first | (with_reducible first | exact HB.out | apply below_alloc | apply pw_below_drewN | apply below_drew1 | refine below_set ?_ GE131.out | refine below_set ?_ GE132.out) | exact HB.out)⟩⟩
  case round =>
    clear H'
    try clear c1
    try clear p2
    obtain ⟨x8_1, x9_1, rfl, HA, HK1, HO_8, BK131, BK132, HB⟩ := hrel
    cases gk with
    | zero => exact absurd HA.out (by simp [crossbuckref23_Restart.l0])
    | succ k1 =>
      have H := HA.out
      clear HA
      simp only [crossbuckref23_Restart.l0] at H
      obtain ⟨ji6, hji6⟩ : ∃ j_ : Int, (mn a2 8) = j_ := ⟨_, rfl⟩
      replace H : (if x9_1 < (ji6) then (if a1 = true then (if 0 ≤ (IntKind.u64.wrap (x9_1)) then (if x8_1.length < 1759218604441 then (crossbuckref23_Restart.l0 k1 a1 a2 (x8_1 ++ [(⟨(⟨false, 0, 0, ((Go.bits .and .i64 (shr .i64 a0_1 (IntKind.u64.wrap (x9_1))) 1) == 1)⟩ : S27), (⟨0, 0, ((Go.bits .and .i64 (shr .i64 a0_2 (IntKind.u64.wrap (x9_1))) 1) == 1)⟩ : S29), false, 0, false, false⟩ : S31)]) (wrap64 (x9_1 + 1)) a0_0 a0_1 a0_2) else (none)) else (none)) else (if x8_1.length < 1759218604441 then (crossbuckref23_Restart.l0 k1 a1 a2 (x8_1 ++ [(⟨(⟨false, 0, 0, false⟩ : S27), (⟨0, 0, false⟩ : S29), false, 0, false, false⟩ : S31)]) (wrap64 (x9_1 + 1)) a0_0 a0_1 a0_2) else (none))) else (if a1 = true then (if a0_0 < 0 then (crossbuckref23_Restart.j1 k1 x8_1 true a0_0 a0_1 a0_2) else (crossbuckref23_Restart.j1 k1 x8_1 (decide (a0_0 > 6)) a0_0 a0_1 a0_2)) else (crossbuckref23_Restart.j1 k1 x8_1 true a0_0 a0_1 a0_2))) = some (r1, r2, r3) := by first | (rw [hji6] at H; exact H) | (simp only [hji6] at H ⊢; exact H)
      have hji6_ : (if 8 < a2 then 8 else a2) = ji6 := hji6
      by_cases c7 : x9_1 < (ji6)
      · rw [if_pos c7] at H
        have c7b0 : decide (x9_1 < (ji6)) = true := decide_eq_true c7
        clear c7
        by_cases c8 : a1 = true
        · subst c8
          have H1 : (if 0 ≤ (IntKind.u64.wrap (x9_1)) then (if x8_1.length < 1759218604441 then (crossbuckref23_Restart.l0 k1 true a2 (x8_1 ++ [(⟨(⟨false, 0, 0, ((Go.bits .and .i64 (shr .i64 a0_1 (IntKind.u64.wrap (x9_1))) 1) == 1)⟩ : S27), (⟨0, 0, ((Go.bits .and .i64 (shr .i64 a0_2 (IntKind.u64.wrap (x9_1))) 1) == 1)⟩ : S29), false, 0, false, false⟩ : S31)]) (wrap64 (x9_1 + 1)) a0_0 a0_1 a0_2) else (none)) else (none)) = some (r1, r2, r3) := by rw [if_pos rfl] at H; exact H
          clear H
          have H := H1
          clear H1
          obtain ⟨ji9, hji9⟩ : ∃ j_ : Int, (IntKind.u64.wrap (x9_1)) = j_ := ⟨_, rfl⟩
          replace H : (if 0 ≤ (ji9) then (if x8_1.length < 1759218604441 then (crossbuckref23_Restart.l0 k1 true a2 (x8_1 ++ [(⟨(⟨false, 0, 0, ((Go.bits .and .i64 (shr .i64 a0_1 (ji9)) 1) == 1)⟩ : S27), (⟨0, 0, ((Go.bits .and .i64 (shr .i64 a0_2 (ji9)) 1) == 1)⟩ : S29), false, 0, false, false⟩ : S31)]) (wrap64 (x9_1 + 1)) a0_0 a0_1 a0_2) else (none)) else (none)) = some (r1, r2, r3) := by first | (rw [hji9] at H; exact H) | (simp only [hji9] at H ⊢; exact H)
          by_cases c10 : 0 ≤ (ji9)
          · rw [if_pos c10] at H
            have c10b0 := eq_true c10
            have c10b1 : decide (0 ≤ (ji9)) = true := decide_eq_true c10
            clear c10
            obtain ⟨ji11, hji11⟩ : ∃ j_ : Int, (shr .i64 a0_1 (ji9)) = j_ := ⟨_, rfl⟩
            replace H : (if x8_1.length < 1759218604441 then (crossbuckref23_Restart.l0 k1 true a2 (x8_1 ++ [(⟨(⟨false, 0, 0, ((Go.bits .and .i64 (ji11) 1) == 1)⟩ : S27), (⟨0, 0, ((Go.bits .and .i64 (shr .i64 a0_2 (ji9)) 1) == 1)⟩ : S29), false, 0, false, false⟩ : S31)]) (wrap64 (x9_1 + 1)) a0_0 a0_1 a0_2) else (none)) = some (r1, r2, r3) := by first | (rw [hji11] at H; exact H) | (simp only [hji11] at H ⊢; exact H)
            have hji11_ : (a0_1 / 2 ^ min (ji9).toNat 64) = ji11 := hji11
            have hji11z : (ji9) ≤ 64 → (a0_1 / 2 ^ (ji9).toNat) = ji11 := shr_small hji11
            have c12b0 := eq_true (of_decide_eq_true (by first | (with_reducible assumption) | assumption) : 0 ≤ (ji9))
            obtain ⟨ji13, hji13⟩ : ∃ j_ : Int, (shr .i64 a0_2 (ji9)) = j_ := ⟨_, rfl⟩
            replace H : (if x8_1.length < 1759218604441 then (crossbuckref23_Restart.l0 k1 true a2 (x8_1 ++ [(⟨(⟨false, 0, 0, ((Go.bits .and .i64 (ji11) 1) == 1)⟩ : S27), (⟨0, 0, ((Go.bits .and .i64 (ji13) 1) == 1)⟩ : S29), false, 0, false, false⟩ : S31)]) (wrap64 (x9_1 + 1)) a0_0 a0_1 a0_2) else (none)) = some (r1, r2, r3) := by first | (rw [hji13] at H; exact H) | (simp only [hji13] at H ⊢; exact H)
            have hji13_ : (a0_2 / 2 ^ min (ji9).toNat 64) = ji13 := hji13
            have hji13z : (ji9) ≤ 64 → (a0_2 / 2 ^ (ji9).toNat) = ji13 := shr_small hji13
            by_cases c14 : x8_1.length < 1759218604441
            · rw [if_pos c14] at H
              have LMc14 := Aside0.mk c14
              clear c14
              obtain ⟨y134, hy134⟩ : ∃ y_ : List (S31), y_ = (x8_1 ++ [(⟨(⟨false, 0, 0, ((Go.bits .and .i64 (ji11) 1) == 1)⟩ : S27), (⟨0, 0, ((Go.bits .and .i64 (ji13) 1) == 1)⟩ : S29), false, 0, false, false⟩ : S31)]) := ⟨_, rfl⟩
              replace H : (crossbuckref23_Restart.l0 k1 true a2 y134 (wrap64 (x9_1 + 1)) a0_0 a0_1 a0_2) = some (r1, r2, r3) := by first | (rw [hy134]; with_reducible exact H) | (have H2_ := (Option.bind_some _ _).symm.trans H; rw [hy134]; with_reducible exact H2_) | (have H2_ := (Option.bind_some _ _).symm.trans H; with_reducible exact H2_) | with_reducible exact H | (rw [hy134]; exact H) | exact H
              have Ny134 := Aside0.mk hy134
              clear hy134
              have H' := Aside0.mk H
              clear H
              go_wp2_with (first | ((with_reducible refine gate_dst (N := 10) rfl ?_); refine box_event ?hg (N := 10) ?hd (cs := #[.bool false, .int .i64 0, .int .i64 0, .bool false, .int .i64 0, .int .i64 0, .bool false, .bool false, .int .i64 0, .bool false, .bool false]) (t := 31) ?hr ?_; (case hd => rfl); (case hg => rfl); (case hr => first | (go_simp; done) | (go_simp; rfl)); intro gb133 hg w15 hbox hb; have n0_ := Aside0.mk (Kd.R_below (Kd.R_elderB (by (with_reducible repeat (first | apply Kd.R_alloc | apply Kd.R_drewN | apply Kd.R_drew)); exact HO_8.out) gb133 (Nat.le_of_eq hg.symm)) hb); have n1_ := Aside0.mk (blk_below (g := gb131) (o := .cells #[.int .i64 a0_0, .int .i64 a0_1, .int .i64 a0_2] 48 (0, 0)) (by (with_reducible repeat (first | refine blk_drewN ?_ _ | refine blk_drew ?_ | refine blk_alloc ?_ _)); exact BK131.out) hb); have n2_ := Aside0.mk (blk_below (g := gb132) (o := .cells #[.int .i64 0, .int .i64 0] 46 (0, 0)) (by (with_reducible repeat (first | refine blk_drewN ?_ _ | refine blk_drew ?_ | refine blk_alloc ?_ _)); exact BK132.out) hb); have n3_ := Aside0.mk (below_step (by repeat (first | (with_reducible first | exact HB.out | apply below_alloc | apply pw_below_drewN | apply below_drew1 | refine below_set ?_ GE131.out | refine below_set ?_ GE132.out) | exact HB.out)) hb); have n4_ := Aside0.mk (hbox); have n5_ := Aside0.mk ((by rw [hg]; exact (below_size (by repeat (first | (with_reducible first | exact HB.out | apply below_alloc | apply pw_below_drewN | apply below_drew1 | refine below_set ?_ GE131.out | refine below_set ?_ GE132.out) | exact HB.out))) : w.heap.size ≤ gb133)); have n6_ := Aside0.mk ((by rw [hg]; exact (below_size (by repeat (first | (with_reducible first | exact HB.out | apply below_alloc | apply pw_below_drewN | apply below_drew1 | refine below_set ?_ GE131.out | refine below_set ?_ GE132.out) | exact HB.out))) : w.heap.size ≤ gb133)); have n7_ := Aside0.mk ((by rw [hg]; exact Nat.ne_of_lt (blk_lt (g := gb131) (o := .cells #[.int .i64 a0_0, .int .i64 a0_1, .int .i64 a0_2] 48 (0, 0)) (by (with_reducible repeat (first | refine blk_drewN ?_ _ | refine blk_drew ?_ | refine blk_alloc ?_ _)); exact BK131.out)) : gb131 ≠ gb133)); have n8_ := Aside0.mk ((by rw [hg]; exact Nat.ne_of_gt (blk_lt (g := gb131) (o := .cells #[.int .i64 a0_0, .int .i64 a0_1, .int .i64 a0_2] 48 (0, 0)) (by (with_reducible repeat (first | refine blk_drewN ?_ _ | refine blk_drew ?_ | refine blk_alloc ?_ _)); exact BK131.out)) : gb133 ≠ gb131)); have n9_ := Aside0.mk ((by rw [hg]; exact Nat.ne_of_lt (blk_lt (g := gb132) (o := .cells #[.int .i64 0, .int .i64 0] 46 (0, 0)) (by (with_reducible repeat (first | refine blk_drewN ?_ _ | refine blk_drew ?_ | refine blk_alloc ?_ _)); exact BK132.out)) : gb132 ≠ gb133)); have n10_ := Aside0.mk ((by rw [hg]; exact Nat.ne_of_gt (blk_lt (g := gb132) (o := .cells #[.int .i64 0, .int .i64 0] 46 (0, 0)) (by (with_reducible repeat (first | refine blk_drewN ?_ _ | refine blk_drew ?_ | refine blk_alloc ?_ _)); exact BK132.out)) : gb133 ≠ gb132)); clear HO_8; clear BK131; clear BK132; clear HB; have HO_8 := n0_; have BK131 := n1_; have BK132 := n2_; have HB := n3_; have BK133 := n4_; have GW133 := n5_; have GE133 := n6_; have NB131_133 := n7_; have NB133_131 := n8_; have NB132_133 := n9_; have NB133_132 := n10_; clear n0_ n1_ n2_ n3_ n4_ n5_ n6_ n7_ n8_ n9_ n10_; clear hb hbox hg; have hnb16 := NB131_132.out; have hnc16 := NB132_131.out; have hnb17 := NB131_133.out; have hnc17 := NB133_131.out; have hcz18_0 : w15.cell? ⟨gb131, 0, none⟩ = some (.int .i64 a0_0) := (blk_cell BK131.out 0).trans rfl; have hcz18_1 : w15.cell? ⟨gb131, 1, none⟩ = some (.int .i64 a0_1) := (blk_cell BK131.out 1).trans rfl; have hcz18_2 : w15.cell? ⟨gb131, 2, none⟩ = some (.int .i64 a0_2) := (blk_cell BK131.out 2).trans rfl; have hfz18_0 := blk_frozen BK131.out 0; have hfz18_1 := blk_frozen BK131.out 1; have hfz18_2 := blk_frozen BK131.out 2; have hnb19 := NB133_132.out; have hnc19 := NB132_133.out; have hcz20_0 : w15.cell? ⟨gb133, 0, none⟩ = some (.bool false) := (blk_cell BK133.out 0).trans rfl; have hcz20_1 : w15.cell? ⟨gb133, 1, none⟩ = some (.int .i64 0) := (blk_cell BK133.out 1).trans rfl; have hcz20_2 : w15.cell? ⟨gb133, 2, none⟩ = some (.int .i64 0) := (blk_cell BK133.out 2).trans rfl; have hcz20_3 : w15.cell? ⟨gb133, 3, none⟩ = some (.bool false) := (blk_cell BK133.out 3).trans rfl; have hcz20_4 : w15.cell? ⟨gb133, 4, none⟩ = some (.int .i64 0) := (blk_cell BK133.out 4).trans rfl; have hcz20_5 : w15.cell? ⟨gb133, 5, none⟩ = some (.int .i64 0) := (blk_cell BK133.out 5).trans rfl; have hcz20_6 : w15.cell? ⟨gb133, 6, none⟩ = some (.bool false) := (blk_cell BK133.out 6).trans rfl; have hcz20_7 : w15.cell? ⟨gb133, 7, none⟩ = some (.bool false) := (blk_cell BK133.out 7).trans rfl; have hcz20_8 : w15.cell? ⟨gb133, 8, none⟩ = some (.int .i64 0) := (blk_cell BK133.out 8).trans rfl; have hcz20_9 : w15.cell? ⟨gb133, 9, none⟩ = some (.bool false) := (blk_cell BK133.out 9).trans rfl; have hcz20_10 : w15.cell? ⟨gb133, 10, none⟩ = some (.bool false) := (blk_cell BK133.out 10).trans rfl; have hfz20_0 := blk_frozen BK133.out 0; have hfz20_1 := blk_frozen BK133.out 1; have hfz20_2 := blk_frozen BK133.out 2; have hfz20_3 := blk_frozen BK133.out 3; have hfz20_4 := blk_frozen BK133.out 4; have hfz20_5 := blk_frozen BK133.out 5; have hfz20_6 := blk_frozen BK133.out 6; have hfz20_7 := blk_frozen BK133.out 7; have hfz20_8 := blk_frozen BK133.out 8; have hfz20_9 := blk_frozen BK133.out 9; have hfz20_10 := blk_frozen BK133.out 10) | ((with_reducible refine gate_builtin (b := .append) (xs := #[.tmp 36, .tmp 38]) rfl ?_); at_builtin; refine Kd.R_append k31 (w0 := w) w.heap.size rfl (.tmp 36) (.tmp 38) 44 31 (.agg #[(.bool false), (.int .i64 0), (.int .i64 0), (.bool false), (.int .i64 0), (.int .i64 0), (.bool false), (.bool false), (.int .i64 0), (.bool false), (.bool false)]) 80 rfl Try.underlying44 info31 rfl (by decide) (by omega) u8 x8_1 (⟨(⟨false, 0, 0, ((Go.bits .and .i64 (ji11) 1) == 1)⟩ : S27), (⟨0, 0, ((Go.bits .and .i64 (ji13) 1) == 1)⟩ : S29), false, 0, false, false⟩ : S31) [.bool false, .int .i64 0, .int .i64 0, .bool ((Go.bits .and .i64 (ji11) 1) == 1), .int .i64 0, .int .i64 0, .bool ((Go.bits .and .i64 (ji13) 1) == 1), .bool false, .int .i64 0, .bool false, .bool false] (fun k_ => k_ ≠ gb133) (fun _ => False) rfl (by first | (go_simp; done) | (go_simp; rfl)) ?aP (fun _ hk => hk.elim) ?aF ?aO ?aB ?aS ?aL ?_; (case aP => exact k31_mkM _ _ _ (⟨(⟨false, 0, 0, ((Go.bits .and .i64 (ji11) 1) == 1)⟩ : S27), (⟨0, 0, ((Go.bits .and .i64 (ji13) 1) == 1)⟩ : S29), false, 0, false, false⟩ : S31)); (case aB => exact (by repeat (first | (with_reducible first | exact HB.out | apply below_alloc | apply pw_below_drewN | apply below_drew1 | refine below_set ?_ GE131.out | refine below_set ?_ GE132.out | refine below_set ?_ GE133.out) | exact HB.out))); (case aF => exact (fun k_ hk => Kd.freshB (g := gb133) (o := .cells #[.bool false, .int .i64 0, .int .i64 0, .bool ((Go.bits .and .i64 (ji11) 1) == 1), .int .i64 0, .int .i64 0, .bool ((Go.bits .and .i64 (ji13) 1) == 1), .bool false, .int .i64 0, .bool false, .bool false] 31 (0, 0)) (by (with_reducible repeat (first | refine blk_drewN ?_ _ | refine blk_drew ?_ | refine blk_alloc ?_ _)); refine blk_put (cs := #[.bool false, .int .i64 0, .int .i64 0, .bool ((Go.bits .and .i64 (ji11) 1) == 1), .int .i64 0, .int .i64 0, .bool false, .bool false, .int .i64 0, .bool false, .bool false]) ?_ 6 _ rfl; (with_reducible repeat (first | refine blk_drewN ?_ _ | refine blk_drew ?_ | refine blk_alloc ?_ _)); refine blk_put (cs := #[.bool false, .int .i64 0, .int .i64 0, .bool false, .int .i64 0, .int .i64 0, .bool false, .bool false, .int .i64 0, .bool false, .bool false]) ?_ 3 _ rfl; (with_reducible repeat (first | refine blk_drewN ?_ _ | refine blk_drew ?_ | refine blk_alloc ?_ _)); exact BK133.out) k_ hk)); (case aO => exact (by (with_reducible repeat (first | apply Kd.R_alloc | apply Kd.R_drewN | apply Kd.R_drew)); exact Kd.R_mono (Kd.R_far (p := ⟨gb133, 6, none⟩) (Kd.R_far (p := ⟨gb133, 3, none⟩) (Kd.R_mono HO_8.out (fun k_ hk => (⟨hk, hk.2⟩ : _ ∧ k_ ≠ gb133))) (fun _ hk => hk.2) (.bool ((Go.bits .and .i64 (ji11) 1) == 1))) (fun _ hk => hk.2) (.bool ((Go.bits .and .i64 (ji13) 1) == 1))) (fun _ hk => hk.1.2))); (case aS => exact (below_size (by repeat (first | (with_reducible first | exact HB.out | apply below_alloc | apply pw_below_drewN | apply below_drew1 | refine below_set ?_ GE131.out | refine below_set ?_ GE132.out | refine below_set ?_ GE133.out) | exact HB.out)))); (case aL => have := LMc14.out; omega); intro v135 w21 ho hb hg hat; rw [← Ny134.out] at ho; have n0_ := Aside0.mk (blk_grown (g := gb131) (o := .cells #[.int .i64 a0_0, .int .i64 a0_1, .int .i64 a0_2] 48 (0, 0)) (by (with_reducible repeat (first | refine blk_drewN ?_ _ | refine blk_drew ?_ | refine blk_alloc ?_ _)); refine blk_far ?_ NB131_133.out _; (with_reducible repeat (first | refine blk_drewN ?_ _ | refine blk_drew ?_ | refine blk_alloc ?_ _)); refine blk_far ?_ NB131_133.out _; (with_reducible repeat (first | refine blk_drewN ?_ _ | refine blk_drew ?_ | refine blk_alloc ?_ _)); exact BK131.out) hg (Kd.R_ne HO_8.out BK131.out (by decide))); have n1_ := Aside0.mk (blk_grown (g := gb132) (o := .cells #[.int .i64 0, .int .i64 0] 46 (0, 0)) (by (with_reducible repeat (first | refine blk_drewN ?_ _ | refine blk_drew ?_ | refine blk_alloc ?_ _)); refine blk_far ?_ NB132_133.out _; (with_reducible repeat (first | refine blk_drewN ?_ _ | refine blk_drew ?_ | refine blk_alloc ?_ _)); refine blk_far ?_ NB132_133.out _; (with_reducible repeat (first | refine blk_drewN ?_ _ | refine blk_drew ?_ | refine blk_alloc ?_ _)); exact BK132.out) hg (Kd.R_ne HO_8.out BK132.out (by decide))); have n2_ := Aside0.mk (blk_grown (g := gb133) (o := .cells #[.bool false, .int .i64 0, .int .i64 0, .bool ((Go.bits .and .i64 (ji11) 1) == 1), .int .i64 0, .int .i64 0, .bool ((Go.bits .and .i64 (ji13) 1) == 1), .bool false, .int .i64 0, .bool false, .bool false] 31 (0, 0)) (by (with_reducible repeat (first | refine blk_drewN ?_ _ | refine blk_drew ?_ | refine blk_alloc ?_ _)); refine blk_put (cs := #[.bool false, .int .i64 0, .int .i64 0, .bool ((Go.bits .and .i64 (ji11) 1) == 1), .int .i64 0, .int .i64 0, .bool false, .bool false, .int .i64 0, .bool false, .bool false]) ?_ 6 _ rfl; (with_reducible repeat (first | refine blk_drewN ?_ _ | refine blk_drew ?_ | refine blk_alloc ?_ _)); refine blk_put (cs := #[.bool false, .int .i64 0, .int .i64 0, .bool false, .int .i64 0, .int .i64 0, .bool false, .bool false, .int .i64 0, .bool false, .bool false]) ?_ 3 _ rfl; (with_reducible repeat (first | refine blk_drewN ?_ _ | refine blk_drew ?_ | refine blk_alloc ?_ _)); exact BK133.out) hg (Kd.R_away HO_8.out (fun _ hk => hk.2))); have n3_ := Aside0.mk (hb); have n4_ := Aside0.mk (ho); clear BK131; clear BK132; clear BK133; clear HB; clear HO_8; have BK131 := n0_; have BK132 := n1_; have BK133 := n2_; have HB := n3_; have HO136 := n4_; clear n0_ n1_ n2_ n3_ n4_; clear ho hb hg hat))
              go_roundg k1
              case measure => have := HK1.out; omega
              case rel => exact ⟨(y134), (wrap64 (x9_1 + 1)), (by first | rfl | (simp; done) | (simp [*]; done)), H', ⟨by have := HK1.out; omega⟩, ⟨by (with_reducible repeat (first | apply Kd.R_alloc | apply Kd.R_drewN | apply Kd.R_drew)); exact Kd.R_mono HO136.out (fun _ hk => trivial)⟩, ⟨by (with_reducible repeat (first | refine blk_drewN ?_ _ | refine blk_drew ?_ | refine blk_alloc ?_ _)); exact BK131.out⟩, ⟨by (with_reducible repeat (first | refine blk_drewN ?_ _ | refine blk_drew ?_ | refine blk_alloc ?_ _)); exact BK132.out⟩, ⟨by repeat (first | (with_reducible first | exact HB.out | apply below_alloc | apply pw_below_drewN | apply below_drew1 | refine below_set ?_ GE131.out | refine below_set ?_ GE132.out | refine below_set ?_ GE133.out) | exact HB.out)⟩⟩
            · rw [if_neg c14] at H
              exact absurd H (by simp)
          · rw [if_neg c10] at H
            exact absurd H (by simp)
        · replace c8 := Bool.eq_false_iff.mpr c8
          subst c8
          have H1 : (if x8_1.length < 1759218604441 then (crossbuckref23_Restart.l0 k1 false a2 (x8_1 ++ [(⟨(⟨false, 0, 0, false⟩ : S27), (⟨0, 0, false⟩ : S29), false, 0, false, false⟩ : S31)]) (wrap64 (x9_1 + 1)) a0_0 a0_1 a0_2) else (none)) = some (r1, r2, r3) := by rw [if_neg (show ¬ (false = true) by decide)] at H; exact H
          clear H
          have H := H1
          clear H1
          by_cases c22 : x8_1.length < 1759218604441
          · rw [if_pos c22] at H
            have LMc22 := Aside0.mk c22
            clear c22
            obtain ⟨y137, hy137⟩ : ∃ y_ : List (S31), y_ = (x8_1 ++ [(⟨(⟨false, 0, 0, false⟩ : S27), (⟨0, 0, false⟩ : S29), false, 0, false, false⟩ : S31)]) := ⟨_, rfl⟩
            replace H : (crossbuckref23_Restart.l0 k1 false a2 y137 (wrap64 (x9_1 + 1)) a0_0 a0_1 a0_2) = some (r1, r2, r3) := by first | (rw [hy137]; with_reducible exact H) | (have H2_ := (Option.bind_some _ _).symm.trans H; rw [hy137]; with_reducible exact H2_) | (have H2_ := (Option.bind_some _ _).symm.trans H; with_reducible exact H2_) | with_reducible exact H | (rw [hy137]; exact H) | exact H
            have Ny137 := Aside0.mk hy137
            clear hy137
            have H' := Aside0.mk H
            clear H
            go_wp2_with (first | ((with_reducible refine gate_dst (N := 10) rfl ?_); refine box_event ?hg (N := 10) ?hd (cs := #[.bool false, .int .i64 0, .int .i64 0, .bool false, .int .i64 0, .int .i64 0, .bool false, .bool false, .int .i64 0, .bool false, .bool false]) (t := 31) ?hr ?_; (case hd => rfl); (case hg => rfl); (case hr => first | (go_simp; done) | (go_simp; rfl)); intro gb133 hg w23 hbox hb; have n0_ := Aside0.mk (Kd.R_below (Kd.R_elderB (by (with_reducible repeat (first | apply Kd.R_alloc | apply Kd.R_drewN | apply Kd.R_drew)); exact HO_8.out) gb133 (Nat.le_of_eq hg.symm)) hb); have n1_ := Aside0.mk (blk_below (g := gb131) (o := .cells #[.int .i64 a0_0, .int .i64 a0_1, .int .i64 a0_2] 48 (0, 0)) (by (with_reducible repeat (first | refine blk_drewN ?_ _ | refine blk_drew ?_ | refine blk_alloc ?_ _)); exact BK131.out) hb); have n2_ := Aside0.mk (blk_below (g := gb132) (o := .cells #[.int .i64 0, .int .i64 0] 46 (0, 0)) (by (with_reducible repeat (first | refine blk_drewN ?_ _ | refine blk_drew ?_ | refine blk_alloc ?_ _)); exact BK132.out) hb); have n3_ := Aside0.mk (below_step (by repeat (first | (with_reducible first | exact HB.out | apply below_alloc | apply pw_below_drewN | apply below_drew1 | refine below_set ?_ GE131.out | refine below_set ?_ GE132.out) | exact HB.out)) hb); have n4_ := Aside0.mk (hbox); have n5_ := Aside0.mk ((by rw [hg]; exact (below_size (by repeat (first | (with_reducible first | exact HB.out | apply below_alloc | apply pw_below_drewN | apply below_drew1 | refine below_set ?_ GE131.out | refine below_set ?_ GE132.out) | exact HB.out))) : w.heap.size ≤ gb133)); have n6_ := Aside0.mk ((by rw [hg]; exact (below_size (by repeat (first | (with_reducible first | exact HB.out | apply below_alloc | apply pw_below_drewN | apply below_drew1 | refine below_set ?_ GE131.out | refine below_set ?_ GE132.out) | exact HB.out))) : w.heap.size ≤ gb133)); have n7_ := Aside0.mk ((by rw [hg]; exact Nat.ne_of_lt (blk_lt (g := gb131) (o := .cells #[.int .i64 a0_0, .int .i64 a0_1, .int .i64 a0_2] 48 (0, 0)) (by (with_reducible repeat (first | refine blk_drewN ?_ _ | refine blk_drew ?_ | refine blk_alloc ?_ _)); exact BK131.out)) : gb131 ≠ gb133)); have n8_ := Aside0.mk ((by rw [hg]; exact Nat.ne_of_gt (blk_lt (g := gb131) (o := .cells #[.int .i64 a0_0, .int .i64 a0_1, .int .i64 a0_2] 48 (0, 0)) (by (with_reducible repeat (first | refine blk_drewN ?_ _ | refine blk_drew ?_ | refine blk_alloc ?_ _)); exact BK131.out)) : gb133 ≠ gb131)); have n9_ := Aside0.mk ((by rw [hg]; exact Nat.ne_of_lt (blk_lt (g := gb132) (o := .cells #[.int .i64 0, .int .i64 0] 46 (0, 0)) (by (with_reducible repeat (first | refine blk_drewN ?_ _ | refine blk_drew ?_ | refine blk_alloc ?_ _)); exact BK132.out)) : gb132 ≠ gb133)); have n10_ := Aside0.mk ((by rw [hg]; exact Nat.ne_of_gt (blk_lt (g := gb132) (o := .cells #[.int .i64 0, .int .i64 0] 46 (0, 0)) (by (with_reducible repeat (first | refine blk_drewN ?_ _ | refine blk_drew ?_ | refine blk_alloc ?_ _)); exact BK132.out)) : gb133 ≠ gb132)); clear HO_8; clear BK131; clear BK132; clear HB; have HO_8 := n0_; have BK131 := n1_; have BK132 := n2_; have HB := n3_; have BK133 := n4_; have GW133 := n5_; have GE133 := n6_; have NB131_133 := n7_; have NB133_131 := n8_; have NB132_133 := n9_; have NB133_132 := n10_; clear n0_ n1_ n2_ n3_ n4_ n5_ n6_ n7_ n8_ n9_ n10_; clear hb hbox hg; have hnb24 := NB133_131.out; have hnc24 := NB131_133.out; have hnb25 := NB133_132.out; have hnc25 := NB132_133.out; have hcz26_0 : w23.cell? ⟨gb133, 0, none⟩ = some (.bool false) := (blk_cell BK133.out 0).trans rfl; have hcz26_1 : w23.cell? ⟨gb133, 1, none⟩ = some (.int .i64 0) := (blk_cell BK133.out 1).trans rfl; have hcz26_2 : w23.cell? ⟨gb133, 2, none⟩ = some (.int .i64 0) := (blk_cell BK133.out 2).trans rfl; have hcz26_3 : w23.cell? ⟨gb133, 3, none⟩ = some (.bool false) := (blk_cell BK133.out 3).trans rfl; have hcz26_4 : w23.cell? ⟨gb133, 4, none⟩ = some (.int .i64 0) := (blk_cell BK133.out 4).trans rfl; have hcz26_5 : w23.cell? ⟨gb133, 5, none⟩ = some (.int .i64 0) := (blk_cell BK133.out 5).trans rfl; have hcz26_6 : w23.cell? ⟨gb133, 6, none⟩ = some (.bool false) := (blk_cell BK133.out 6).trans rfl; have hcz26_7 : w23.cell? ⟨gb133, 7, none⟩ = some (.bool false) := (blk_cell BK133.out 7).trans rfl; have hcz26_8 : w23.cell? ⟨gb133, 8, none⟩ = some (.int .i64 0) := (blk_cell BK133.out 8).trans rfl; have hcz26_9 : w23.cell? ⟨gb133, 9, none⟩ = some (.bool false) := (blk_cell BK133.out 9).trans rfl; have hcz26_10 : w23.cell? ⟨gb133, 10, none⟩ = some (.bool false) := (blk_cell BK133.out 10).trans rfl; have hfz26_0 := blk_frozen BK133.out 0; have hfz26_1 := blk_frozen BK133.out 1; have hfz26_2 := blk_frozen BK133.out 2; have hfz26_3 := blk_frozen BK133.out 3; have hfz26_4 := blk_frozen BK133.out 4; have hfz26_5 := blk_frozen BK133.out 5; have hfz26_6 := blk_frozen BK133.out 6; have hfz26_7 := blk_frozen BK133.out 7; have hfz26_8 := blk_frozen BK133.out 8; have hfz26_9 := blk_frozen BK133.out 9; have hfz26_10 := blk_frozen BK133.out 10) | ((with_reducible refine gate_builtin (b := .append) (xs := #[.tmp 36, .tmp 38]) rfl ?_); at_builtin; refine Kd.R_append k31 (w0 := w) w.heap.size rfl (.tmp 36) (.tmp 38) 44 31 (.agg #[(.bool false), (.int .i64 0), (.int .i64 0), (.bool false), (.int .i64 0), (.int .i64 0), (.bool false), (.bool false), (.int .i64 0), (.bool false), (.bool false)]) 80 rfl Try.underlying44 info31 rfl (by decide) (by omega) u8 x8_1 (⟨(⟨false, 0, 0, false⟩ : S27), (⟨0, 0, false⟩ : S29), false, 0, false, false⟩ : S31) [.bool false, .int .i64 0, .int .i64 0, .bool false, .int .i64 0, .int .i64 0, .bool false, .bool false, .int .i64 0, .bool false, .bool false] (fun k_ => k_ ≠ gb133) (fun _ => False) rfl rfl ?aP (fun _ hk => hk.elim) ?aF ?aO ?aB ?aS ?aL ?_; (case aP => exact k31_mkM _ _ _ (⟨(⟨false, 0, 0, false⟩ : S27), (⟨0, 0, false⟩ : S29), false, 0, false, false⟩ : S31)); (case aB => exact (by repeat (first | (with_reducible first | exact HB.out | apply below_alloc | apply pw_below_drewN | apply below_drew1 | refine below_set ?_ GE131.out | refine below_set ?_ GE132.out | refine below_set ?_ GE133.out) | exact HB.out))); (case aF => exact (fun k_ hk => Kd.freshB (g := gb133) (o := .cells #[.bool false, .int .i64 0, .int .i64 0, .bool false, .int .i64 0, .int .i64 0, .bool false, .bool false, .int .i64 0, .bool false, .bool false] 31 (0, 0)) (by (with_reducible repeat (first | refine blk_drewN ?_ _ | refine blk_drew ?_ | refine blk_alloc ?_ _)); exact BK133.out) k_ hk)); (case aO => exact (by (with_reducible repeat (first | apply Kd.R_alloc | apply Kd.R_drewN | apply Kd.R_drew)); exact Kd.R_mono HO_8.out (fun _ hk => hk.2))); (case aS => exact (below_size (by repeat (first | (with_reducible first | exact HB.out | apply below_alloc | apply pw_below_drewN | apply below_drew1 | refine below_set ?_ GE131.out | refine below_set ?_ GE132.out | refine below_set ?_ GE133.out) | exact HB.out)))); (case aL => have := LMc22.out; omega); intro v138 w27 ho hb hg hat; rw [← Ny137.out] at ho; have n0_ := Aside0.mk (blk_grown (g := gb131) (o := .cells #[.int .i64 a0_0, .int .i64 a0_1, .int .i64 a0_2] 48 (0, 0)) (by (with_reducible repeat (first | refine blk_drewN ?_ _ | refine blk_drew ?_ | refine blk_alloc ?_ _)); exact BK131.out) hg (Kd.R_ne HO_8.out BK131.out (by decide))); have n1_ := Aside0.mk (blk_grown (g := gb132) (o := .cells #[.int .i64 0, .int .i64 0] 46 (0, 0)) (by (with_reducible repeat (first | refine blk_drewN ?_ _ | refine blk_drew ?_ | refine blk_alloc ?_ _)); exact BK132.out) hg (Kd.R_ne HO_8.out BK132.out (by decide))); have n2_ := Aside0.mk (blk_grown (g := gb133) (o := .cells #[.bool false, .int .i64 0, .int .i64 0, .bool false, .int .i64 0, .int .i64 0, .bool false, .bool false, .int .i64 0, .bool false, .bool false] 31 (0, 0)) (by (with_reducible repeat (first | refine blk_drewN ?_ _ | refine blk_drew ?_ | refine blk_alloc ?_ _)); exact BK133.out) hg (Kd.R_away HO_8.out (fun _ hk => hk.2))); have n3_ := Aside0.mk (hb); have n4_ := Aside0.mk (ho); clear BK131; clear BK132; clear BK133; clear HB; clear HO_8; have BK131 := n0_; have BK132 := n1_; have BK133 := n2_; have HB := n3_; have HO139 := n4_; clear n0_ n1_ n2_ n3_ n4_; clear ho hb hg hat))
            go_roundg k1
            case measure => have := HK1.out; omega
            case rel => exact ⟨(y137), (wrap64 (x9_1 + 1)), (by first | rfl | (simp; done) | (simp [*]; done)), H', ⟨by have := HK1.out; omega⟩, ⟨by (with_reducible repeat (first | apply Kd.R_alloc | apply Kd.R_drewN | apply Kd.R_drew)); exact Kd.R_mono HO139.out (fun _ hk => trivial)⟩, ⟨by (with_reducible repeat (first | refine blk_drewN ?_ _ | refine blk_drew ?_ | refine blk_alloc ?_ _)); exact BK131.out⟩, ⟨by (with_reducible repeat (first | refine blk_drewN ?_ _ | refine blk_drew ?_ | refine blk_alloc ?_ _)); exact BK132.out⟩, ⟨by repeat (first | (with_reducible first | exact HB.out | apply below_alloc | apply pw_below_drewN | apply below_drew1 | refine below_set ?_ GE131.out | refine below_set ?_ GE132.out | refine below_set ?_ GE133.out) | exact HB.out)⟩⟩
          · rw [if_neg c22] at H
            exact absurd H (by simp)
      · rw [if_neg c7] at H
        have c7b0 : decide (x9_1 < (ji6)) = false := decide_eq_false c7
        clear c7
        have HC28 := Aside0.mk H
        clear H
        go_upto_region 10 with (fail)
        go_cut [51] (fun v51 wc => ∃ (kq : Nat) (x51_27 : Bool), v51 = .bool x51_27 ∧ Aside0 (crossbuckref23_Restart.j1 kq x8_1 x51_27 a0_0 a0_1 a0_2 = some (r1, r2, r3)) ∧ Aside0 (kq ≤ k1) ∧ Aside0 (Kd.R k31 31 wc w.heap.size (fun _ => True) u8 x8_1) ∧ Aside0 (wc.heap[gb131]? = some (.cells #[.int .i64 a0_0, .int .i64 a0_1, .int .i64 a0_2] 48 (0, 0))) ∧ Aside0 (wc.heap[gb132]? = some (.cells #[.int .i64 0, .int .i64 0] 46 (0, 0))) ∧ Aside0 (Below w.heap.size w wc))
        case first =>
          have H := HC28.out
          clear HC28
          by_cases c29 : a1 = true
          · subst c29
            have H1 : (if a0_0 < 0 then (crossbuckref23_Restart.j1 k1 x8_1 true a0_0 a0_1 a0_2) else (crossbuckref23_Restart.j1 k1 x8_1 (decide (a0_0 > 6)) a0_0 a0_1 a0_2)) = some (r1, r2, r3) := by rw [if_pos rfl] at H; exact H
            clear H
            have H := H1
            clear H1
            by_cases c30 : a0_0 < 0
            · rw [if_pos c30] at H
              have c30b0 : decide (a0_0 < 0) = true := decide_eq_true c30
              clear c30
              (first | rw [c30b0] | (simp only [i64_w, i32_w]; rw [c30b0]) | skip)
              have H' := Aside0.mk H
              clear H
              have hnb31 := NB131_132.out
              have hnc31 := NB132_131.out
              have hcz32_0 : wr.cell? ⟨gb131, 0, none⟩ = some (.int .i64 a0_0) := (blk_cell BK131.out 0).trans rfl
              have hcz32_1 : wr.cell? ⟨gb131, 1, none⟩ = some (.int .i64 a0_1) := (blk_cell BK131.out 1).trans rfl
              have hcz32_2 : wr.cell? ⟨gb131, 2, none⟩ = some (.int .i64 a0_2) := (blk_cell BK131.out 2).trans rfl
              have hfz32_0 := blk_frozen BK131.out 0
              have hfz32_1 := blk_frozen BK131.out 1
              have hfz32_2 := blk_frozen BK131.out 2
              go_wp2
              go_meet
              case rel => exact ⟨_, (true), (by first | rfl | (simp; done) | (simp [*]; done)), H', ⟨by have := HK1.out; first | omega | exact Nat.le_refl _⟩, ⟨by (with_reducible repeat (first | apply Kd.R_alloc | apply Kd.R_drewN | apply Kd.R_drew)); exact HO_8.out⟩, ⟨by (with_reducible repeat (first | refine blk_drewN ?_ _ | refine blk_drew ?_ | refine blk_alloc ?_ _)); exact BK131.out⟩, ⟨by (with_reducible repeat (first | refine blk_drewN ?_ _ | refine blk_drew ?_ | refine blk_alloc ?_ _)); exact BK132.out⟩, ⟨by repeat (first | (with_reducible first | exact HB.out | apply below_alloc | apply pw_below_drewN | apply below_drew1 | refine below_set ?_ GE131.out | refine below_set ?_ GE132.out) | exact HB.out)⟩⟩
            · rw [if_neg c30] at H
              have c30b0 : decide (a0_0 < 0) = false := decide_eq_false c30
              clear c30
              (first | rw [c30b0] | (simp only [i64_w, i32_w]; rw [c30b0]) | skip)
              have H' := Aside0.mk H
              clear H
              have hnb33 := NB131_132.out
              have hnc33 := NB132_131.out
              have hcz34_0 : wr.cell? ⟨gb131, 0, none⟩ = some (.int .i64 a0_0) := (blk_cell BK131.out 0).trans rfl
              have hcz34_1 : wr.cell? ⟨gb131, 1, none⟩ = some (.int .i64 a0_1) := (blk_cell BK131.out 1).trans rfl
              have hcz34_2 : wr.cell? ⟨gb131, 2, none⟩ = some (.int .i64 a0_2) := (blk_cell BK131.out 2).trans rfl
              have hfz34_0 := blk_frozen BK131.out 0
              have hfz34_1 := blk_frozen BK131.out 1
              have hfz34_2 := blk_frozen BK131.out 2
              go_wp2
              go_meet
              case rel => exact ⟨_, (decide (a0_0 > 6)), (by first | rfl | (simp; done) | (simp [*]; done)), H', ⟨by have := HK1.out; first | omega | exact Nat.le_refl _⟩, ⟨by (with_reducible repeat (first | apply Kd.R_alloc | apply Kd.R_drewN | apply Kd.R_drew)); exact HO_8.out⟩, ⟨by (with_reducible repeat (first | refine blk_drewN ?_ _ | refine blk_drew ?_ | refine blk_alloc ?_ _)); exact BK131.out⟩, ⟨by (with_reducible repeat (first | refine blk_drewN ?_ _ | refine blk_drew ?_ | refine blk_alloc ?_ _)); exact BK132.out⟩, ⟨by repeat (first | (with_reducible first | exact HB.out | apply below_alloc | apply pw_below_drewN | apply below_drew1 | refine below_set ?_ GE131.out | refine below_set ?_ GE132.out) | exact HB.out)⟩⟩
          · replace c29 := Bool.eq_false_iff.mpr c29
            subst c29
            have H1 : (crossbuckref23_Restart.j1 k1 x8_1 true a0_0 a0_1 a0_2) = some (r1, r2, r3) := by rw [if_neg (show ¬ (false = true) by decide)] at H; exact H
            clear H
            have H := H1
            clear H1
            have H' := Aside0.mk H
            clear H
            go_wp2
            go_meet
            case rel => exact ⟨_, (true), (by first | rfl | (simp; done) | (simp [*]; done)), H', ⟨by have := HK1.out; first | omega | exact Nat.le_refl _⟩, ⟨by (with_reducible repeat (first | apply Kd.R_alloc | apply Kd.R_drewN | apply Kd.R_drew)); exact HO_8.out⟩, ⟨by (with_reducible repeat (first | refine blk_drewN ?_ _ | refine blk_drew ?_ | refine blk_alloc ?_ _)); exact BK131.out⟩, ⟨by (with_reducible repeat (first | refine blk_drewN ?_ _ | refine blk_drew ?_ | refine blk_alloc ?_ _)); exact BK132.out⟩, ⟨by repeat (first | (with_reducible first | exact HB.out | apply below_alloc | apply pw_below_drewN | apply below_drew1 | refine below_set ?_ GE131.out | refine below_set ?_ GE132.out) | exact HB.out)⟩⟩
        case rest =>
          clear HC28
          try clear c1
          try clear c2
          try clear p2
          try clear c3
          try clear p6
          try clear c7
          try clear c7b0
          try clear c8
          try clear c10
          try clear c10b0
          try clear c10b1
          try clear c12
          try clear c12b0
          try clear c14
          try clear c16
          try clear c17
          try clear c19
          try clear c22
          try clear c24
          try clear c25
          try clear c29
          try clear c30
          try clear c30b0
          try clear c31
          try clear c33
          try clear hcz18_0
          try clear hcz18_1
          try clear hcz18_2
          try clear hcz20_0
          try clear hcz20_1
          try clear hcz20_10
          try clear hcz20_2
          try clear hcz20_3
          try clear hcz20_4
          try clear hcz20_5
          try clear hcz20_6
          try clear hcz20_7
          try clear hcz20_8
          try clear hcz20_9
          try clear hcz26_0
          try clear hcz26_1
          try clear hcz26_10
          try clear hcz26_2
          try clear hcz26_3
          try clear hcz26_4
          try clear hcz26_5
          try clear hcz26_6
          try clear hcz26_7
          try clear hcz26_8
          try clear hcz26_9
          try clear hcz32_0
          try clear hcz32_1
          try clear hcz32_2
          try clear hcz34_0
          try clear hcz34_1
          try clear hcz34_2
          try clear hfz18_0
          try clear hfz18_1
          try clear hfz18_2
          try clear hfz20_0
          try clear hfz20_1
          try clear hfz20_10
          try clear hfz20_2
          try clear hfz20_3
          try clear hfz20_4
          try clear hfz20_5
          try clear hfz20_6
          try clear hfz20_7
          try clear hfz20_8
          try clear hfz20_9
          try clear hfz26_0
          try clear hfz26_1
          try clear hfz26_10
          try clear hfz26_2
          try clear hfz26_3
          try clear hfz26_4
          try clear hfz26_5
          try clear hfz26_6
          try clear hfz26_7
          try clear hfz26_8
          try clear hfz26_9
          try clear hfz32_0
          try clear hfz32_1
          try clear hfz32_2
          try clear hfz34_0
          try clear hfz34_1
          try clear hfz34_2
          try clear p2
          obtain ⟨kq, x51_27, rfl, HA, HJ27, HO_8, BK131, BK132, HB⟩ := hcut
          cases kq with
          | zero => exact absurd HA.out (by simp [crossbuckref23_Restart.j1])
          | succ kj27 =>
            have H := HA.out
            clear HA
            simp only [crossbuckref23_Restart.j1] at H
            by_cases c35 : x51_27 = true
            · subst c35
              have H1 : ((crossbuckref20_Enter.f 3).bind fun bt140 => (some (bt140.1, bt140.2, x8_1))) = some (r1, r2, r3) := by rw [if_pos rfl] at H; exact H
              clear H
              have H := H1
              clear H1
              replace H := Option.bind_eq_some_iff.mp H
              obtain ⟨⟨t140, t141⟩, A360, H⟩ := H
              replace H : (some (t140, t141, x8_1)) = some (r1, r2, r3) := H
              have A36 := Aside0.mk A360
              clear A360
              simp only [Option.some.injEq, Prod.mk.injEq] at H
              obtain ⟨rfl, rfl, rfl⟩ := H
              go_wp2_with (first | ((with_reducible refine gate_callee (f := 29) rfl ?_); refine goesL_ (some 52) rfl rfl Try.func29 (by kernel_rfl) rfl #[.int .i64 3] rfl (by (try simp only [List.map_toArray, List.map_cons, List.map_nil]); first | done | rfl | (simp only [List.length_drop, List.length_take]; rfl)) ?_; (with_reducible refine (crossbuckref20_Enter.calls 3 t140 t141 _ A36.out).mono ?_); rintro e w37 ⟨rfl, hb⟩; refine ⟨_, rfl, ?_⟩; have n0_ := Aside0.mk (Kd.R_below (by (with_reducible repeat (first | apply Kd.R_alloc | apply Kd.R_drewN | apply Kd.R_drew)); exact HO_8.out) hb); have n1_ := Aside0.mk (blk_below (g := gb131) (o := .cells #[.int .i64 a0_0, .int .i64 a0_1, .int .i64 a0_2] 48 (0, 0)) (by (with_reducible repeat (first | refine blk_drewN ?_ _ | refine blk_drew ?_ | refine blk_alloc ?_ _)); exact BK131.out) hb); have n2_ := Aside0.mk (blk_below (g := gb132) (o := .cells #[.int .i64 0, .int .i64 0] 46 (0, 0)) (by (with_reducible repeat (first | refine blk_drewN ?_ _ | refine blk_drew ?_ | refine blk_alloc ?_ _)); exact BK132.out) hb); have n3_ := Aside0.mk (below_step (by repeat (first | (with_reducible first | exact HB.out | apply below_alloc | apply pw_below_drewN | apply below_drew1 | refine below_set ?_ GE131.out | refine below_set ?_ GE132.out) | exact HB.out)) hb); clear HO_8; clear BK131; clear BK132; clear HB; have HO_8 := n0_; have BK131 := n1_; have BK132 := n2_; have HB := n3_; clear n0_ n1_ n2_ n3_; (try clear hb); (try clear hb2); (try clear hk); (try clear hi); have hnb38 := NB132_131.out; have hnc38 := NB131_132.out; have hcz39_0 : w37.cell? ⟨gb132, 0, none⟩ = some (.int .i64 0) := (blk_cell BK132.out 0).trans rfl; have hcz39_1 : w37.cell? ⟨gb132, 1, none⟩ = some (.int .i64 0) := (blk_cell BK132.out 1).trans rfl; have hfz39_0 := blk_frozen BK132.out 0; have hfz39_1 := blk_frozen BK132.out 1))
              refine bodyPost_ret (results_ct rfl _ _ gb132 46 #[.int .i64 t140, .int .i64 t141] (0, 0) _ rfl (by (with_reducible repeat (first | refine blk_drewN ?_ _ | refine blk_drew ?_ | refine blk_alloc ?_ _)); refine blk_put (cs := #[.int .i64 t140, .int .i64 0]) ?_ 1 _ rfl; (with_reducible repeat (first | refine blk_drewN ?_ _ | refine blk_drew ?_ | refine blk_alloc ?_ _)); refine blk_put (cs := #[.int .i64 0, .int .i64 0]) ?_ 0 _ rfl; (with_reducible repeat (first | refine blk_drewN ?_ _ | refine blk_drew ?_ | refine blk_alloc ?_ _)); exact BK132.out) Try.underlying46 rfl (by kernel_rfl)) rfl ?_
              exact ⟨_, by first | rfl | (simp [errW_none, errW_some] <;> rfl) | (simp only [← hji6]; first | rfl | (simp [errW_none, errW_some] <;> rfl)) | (simp [*, errW_none, errW_some] <;> rfl), by (with_reducible repeat (first | apply Kd.R_alloc | apply Kd.R_drewN | apply Kd.R_drew)); exact Kd.R_mono (Kd.R_far (p := ⟨gb132, 1, none⟩) (Kd.R_far (p := ⟨gb132, 0, none⟩) (Kd.R_types HO_8.out BK132.out (by decide)) (fun _ hk => hk.2) (.int .i64 t140)) (fun _ hk => hk.2) (.int .i64 t141)) (fun _ hk => trivial), by repeat (first | (with_reducible first | exact HB.out | apply below_alloc | apply pw_below_drewN | apply below_drew1 | refine below_set ?_ GE131.out | refine below_set ?_ GE132.out) | exact HB.out)⟩
            · replace c35 := Bool.eq_false_iff.mpr c35
              subst c35
              have H1 : (if a0_0 = 0 then ((crossbuckref20_Enter.f 6).bind fun bt142 => (some (bt142.1, bt142.2, x8_1))) else ((crossbuckref20_Enter.f a0_0).bind fun bt144 => (some (bt144.1, bt144.2, x8_1)))) = some (r1, r2, r3) := by rw [if_neg (show ¬ (false = true) by decide)] at H; exact H
              clear H
              have H := H1
              clear H1
              by_cases c40 : a0_0 = 0
              · rw [if_pos c40] at H
                have c40b0 : (a0_0 == 0) = true := beq_iff_eq.mpr c40
                have c40b1 : (a0_0 != 0) = false := bne_eq_false_iff_eq.mpr c40
                clear c40
                replace H := Option.bind_eq_some_iff.mp H
                obtain ⟨⟨t142, t143⟩, A410, H⟩ := H
                replace H : (some (t142, t143, x8_1)) = some (r1, r2, r3) := H
                have A41 := Aside0.mk A410
                clear A410
                simp only [Option.some.injEq, Prod.mk.injEq] at H
                obtain ⟨rfl, rfl, rfl⟩ := H
                have hnb42 := NB131_132.out
                have hnc42 := NB132_131.out
                have hcz43_0 : wc.cell? ⟨gb131, 0, none⟩ = some (.int .i64 a0_0) := (blk_cell BK131.out 0).trans rfl
                have hcz43_1 : wc.cell? ⟨gb131, 1, none⟩ = some (.int .i64 a0_1) := (blk_cell BK131.out 1).trans rfl
                have hcz43_2 : wc.cell? ⟨gb131, 2, none⟩ = some (.int .i64 a0_2) := (blk_cell BK131.out 2).trans rfl
                have hfz43_0 := blk_frozen BK131.out 0
                have hfz43_1 := blk_frozen BK131.out 1
                have hfz43_2 := blk_frozen BK131.out 2
                go_wp2_with (first | ((with_reducible refine gate_callee (f := 29) rfl ?_); refine goesL_ (some 57) rfl rfl Try.func29 (by kernel_rfl) rfl #[.int .i64 6] rfl (by (try simp only [List.map_toArray, List.map_cons, List.map_nil]); first | done | rfl | (simp only [List.length_drop, List.length_take]; rfl)) ?_; (with_reducible refine (crossbuckref20_Enter.calls 6 t142 t143 _ A41.out).mono ?_); rintro e w44 ⟨rfl, hb⟩; refine ⟨_, rfl, ?_⟩; have n0_ := Aside0.mk (Kd.R_below (by (with_reducible repeat (first | apply Kd.R_alloc | apply Kd.R_drewN | apply Kd.R_drew)); exact HO_8.out) hb); have n1_ := Aside0.mk (blk_below (g := gb131) (o := .cells #[.int .i64 a0_0, .int .i64 a0_1, .int .i64 a0_2] 48 (0, 0)) (by (with_reducible repeat (first | refine blk_drewN ?_ _ | refine blk_drew ?_ | refine blk_alloc ?_ _)); exact BK131.out) hb); have n2_ := Aside0.mk (blk_below (g := gb132) (o := .cells #[.int .i64 0, .int .i64 0] 46 (0, 0)) (by (with_reducible repeat (first | refine blk_drewN ?_ _ | refine blk_drew ?_ | refine blk_alloc ?_ _)); exact BK132.out) hb); have n3_ := Aside0.mk (below_step (by repeat (first | (with_reducible first | exact HB.out | apply below_alloc | apply pw_below_drewN | apply below_drew1 | refine below_set ?_ GE131.out | refine below_set ?_ GE132.out) | exact HB.out)) hb); clear HO_8; clear BK131; clear BK132; clear HB; have HO_8 := n0_; have BK131 := n1_; have BK132 := n2_; have HB := n3_; clear n0_ n1_ n2_ n3_; (try clear hb); (try clear hb2); (try clear hk); (try clear hi); have hcz45_0 : w44.cell? ⟨gb132, 0, none⟩ = some (.int .i64 0) := (blk_cell BK132.out 0).trans rfl; have hcz45_1 : w44.cell? ⟨gb132, 1, none⟩ = some (.int .i64 0) := (blk_cell BK132.out 1).trans rfl; have hfz45_0 := blk_frozen BK132.out 0; have hfz45_1 := blk_frozen BK132.out 1))
                refine bodyPost_ret (results_ct rfl _ _ gb132 46 #[.int .i64 t142, .int .i64 t143] (0, 0) _ rfl (by (with_reducible repeat (first | refine blk_drewN ?_ _ | refine blk_drew ?_ | refine blk_alloc ?_ _)); refine blk_put (cs := #[.int .i64 t142, .int .i64 0]) ?_ 1 _ rfl; (with_reducible repeat (first | refine blk_drewN ?_ _ | refine blk_drew ?_ | refine blk_alloc ?_ _)); refine blk_put (cs := #[.int .i64 0, .int .i64 0]) ?_ 0 _ rfl; (with_reducible repeat (first | refine blk_drewN ?_ _ | refine blk_drew ?_ | refine blk_alloc ?_ _)); exact BK132.out) Try.underlying46 rfl (by kernel_rfl)) rfl ?_
                exact ⟨_, by first | rfl | (simp [errW_none, errW_some] <;> rfl) | (simp only [← hji6]; first | rfl | (simp [errW_none, errW_some] <;> rfl)) | (simp [*, errW_none, errW_some] <;> rfl), by (with_reducible repeat (first | apply Kd.R_alloc | apply Kd.R_drewN | apply Kd.R_drew)); exact Kd.R_mono (Kd.R_far (p := ⟨gb132, 1, none⟩) (Kd.R_far (p := ⟨gb132, 0, none⟩) (Kd.R_types HO_8.out BK132.out (by decide)) (fun _ hk => hk.2) (.int .i64 t142)) (fun _ hk => hk.2) (.int .i64 t143)) (fun _ hk => trivial), by repeat (first | (with_reducible first | exact HB.out | apply below_alloc | apply pw_below_drewN | apply below_drew1 | refine below_set ?_ GE131.out | refine below_set ?_ GE132.out) | exact HB.out)⟩
              · rw [if_neg c40] at H
                have c40b0 : (a0_0 == 0) = false := beq_eq_false_iff_ne.mpr c40
                have c40b1 : (a0_0 != 0) = true := bne_iff_ne.mpr c40
                replace H := Option.bind_eq_some_iff.mp H
                obtain ⟨⟨t144, t145⟩, A460, H⟩ := H
                replace H : (some (t144, t145, x8_1)) = some (r1, r2, r3) := H
                have A46 := Aside0.mk A460
                clear A460
                simp only [Option.some.injEq, Prod.mk.injEq] at H
                obtain ⟨rfl, rfl, rfl⟩ := H
                have hnb47 := NB131_132.out
                have hnc47 := NB132_131.out
                have hcz48_0 : wc.cell? ⟨gb131, 0, none⟩ = some (.int .i64 a0_0) := (blk_cell BK131.out 0).trans rfl
                have hcz48_1 : wc.cell? ⟨gb131, 1, none⟩ = some (.int .i64 a0_1) := (blk_cell BK131.out 1).trans rfl
                have hcz48_2 : wc.cell? ⟨gb131, 2, none⟩ = some (.int .i64 a0_2) := (blk_cell BK131.out 2).trans rfl
                have hfz48_0 := blk_frozen BK131.out 0
                have hfz48_1 := blk_frozen BK131.out 1
                have hfz48_2 := blk_frozen BK131.out 2
                go_wp2_with (first | ((with_reducible refine gate_callee (f := 29) rfl ?_); refine goesL_ (some 61) rfl rfl Try.func29 (by kernel_rfl) rfl #[.int .i64 a0_0] rfl (by (try simp only [List.map_toArray, List.map_cons, List.map_nil]); first | done | rfl | (simp only [List.length_drop, List.length_take]; rfl)) ?_; (with_reducible refine (crossbuckref20_Enter.calls a0_0 t144 t145 _ A46.out).mono ?_); rintro e w49 ⟨rfl, hb⟩; refine ⟨_, rfl, ?_⟩; have n0_ := Aside0.mk (Kd.R_below (by (with_reducible repeat (first | apply Kd.R_alloc | apply Kd.R_drewN | apply Kd.R_drew)); exact HO_8.out) hb); have n1_ := Aside0.mk (blk_below (g := gb131) (o := .cells #[.int .i64 a0_0, .int .i64 a0_1, .int .i64 a0_2] 48 (0, 0)) (by (with_reducible repeat (first | refine blk_drewN ?_ _ | refine blk_drew ?_ | refine blk_alloc ?_ _)); exact BK131.out) hb); have n2_ := Aside0.mk (blk_below (g := gb132) (o := .cells #[.int .i64 0, .int .i64 0] 46 (0, 0)) (by (with_reducible repeat (first | refine blk_drewN ?_ _ | refine blk_drew ?_ | refine blk_alloc ?_ _)); exact BK132.out) hb); have n3_ := Aside0.mk (below_step (by repeat (first | (with_reducible first | exact HB.out | apply below_alloc | apply pw_below_drewN | apply below_drew1 | refine below_set ?_ GE131.out | refine below_set ?_ GE132.out) | exact HB.out)) hb); clear HO_8; clear BK131; clear BK132; clear HB; have HO_8 := n0_; have BK131 := n1_; have BK132 := n2_; have HB := n3_; clear n0_ n1_ n2_ n3_; (try clear hb); (try clear hb2); (try clear hk); (try clear hi); have hcz50_0 : w49.cell? ⟨gb132, 0, none⟩ = some (.int .i64 0) := (blk_cell BK132.out 0).trans rfl; have hcz50_1 : w49.cell? ⟨gb132, 1, none⟩ = some (.int .i64 0) := (blk_cell BK132.out 1).trans rfl; have hfz50_0 := blk_frozen BK132.out 0; have hfz50_1 := blk_frozen BK132.out 1))
                refine bodyPost_ret (results_ct rfl _ _ gb132 46 #[.int .i64 t144, .int .i64 t145] (0, 0) _ rfl (by (with_reducible repeat (first | refine blk_drewN ?_ _ | refine blk_drew ?_ | refine blk_alloc ?_ _)); refine blk_put (cs := #[.int .i64 t144, .int .i64 0]) ?_ 1 _ rfl; (with_reducible repeat (first | refine blk_drewN ?_ _ | refine blk_drew ?_ | refine blk_alloc ?_ _)); refine blk_put (cs := #[.int .i64 0, .int .i64 0]) ?_ 0 _ rfl; (with_reducible repeat (first | refine blk_drewN ?_ _ | refine blk_drew ?_ | refine blk_alloc ?_ _)); exact BK132.out) Try.underlying46 rfl (by kernel_rfl)) rfl ?_
                exact ⟨_, by first | rfl | (simp [errW_none, errW_some] <;> rfl) | (simp only [← hji6]; first | rfl | (simp [errW_none, errW_some] <;> rfl)) | (simp [*, errW_none, errW_some] <;> rfl), by (with_reducible repeat (first | apply Kd.R_alloc | apply Kd.R_drewN | apply Kd.R_drew)); exact Kd.R_mono (Kd.R_far (p := ⟨gb132, 1, none⟩) (Kd.R_far (p := ⟨gb132, 0, none⟩) (Kd.R_types HO_8.out BK132.out (by decide)) (fun _ hk => hk.2) (.int .i64 t144)) (fun _ hk => hk.2) (.int .i64 t145)) (fun _ hk => trivial), by repeat (first | (with_reducible first | exact HB.out | apply below_alloc | apply pw_below_drewN | apply below_drew1 | refine below_set ?_ GE131.out | refine below_set ?_ GE132.out) | exact HB.out)⟩

/-! ### crossbuckref19_Good: function 31 -/
def crossbuckref19_Good.l0 : Nat → List (S31) → Int → Bool → Bool → Bool → Bool → Bool → Bool → Bool → Int → Bool → Bool → Int → List (S34) → Option (Bool)
  | 0, _, _, _, _, _, _, _, _, _, _, _, _, _, _ => none
  | k + 1, x1, x5, x147000, x147001, x147002, x147003, x147004, x147005, x147006, x147007, x147008, x147009, x147010, x147011 => if x5 < (x1.length : Int) then (if 0 ≤ x5 then (if (rd_T31 x1 x5).f4 = true then (some false) else (crossbuckref19_Good.l0 k x1 (wrap64 (x5 + 1)) x147000 x147001 x147002 x147003 x147004 x147005 x147006 x147007 x147008 x147009 x147010 x147011)) else (none)) else (if x147007 = 1 then (some false) else (if x147008 = true then (some x147005) else (some false)))
def crossbuckref19_Good.f (k : Nat) (a0_0 : Bool) (a0_1 : Bool) (a0_2 : Bool) (a0_3 : Bool) (a0_4 : Bool) (a0_5 : Bool) (a0_6 : Bool) (a0_7 : Int) (a0_8 : Bool) (a0_9 : Bool) (a0_10 : Int) (l0_11 : List (S34)) (l1 : List (S31)) : Option (Bool) := crossbuckref19_Good.l0 k l1 0 a0_0 a0_1 a0_2 a0_3 a0_4 a0_5 a0_6 a0_7 a0_8 a0_9 a0_10 l0_11
theorem crossbuckref19_Good.mono_l : ∀ k, (∀ y0 y1 y2 y3 y4 y5 y6 y7 y8 y9 y10 y11 y12 y13, LeO (crossbuckref19_Good.l0 k y0 y1 y2 y3 y4 y5 y6 y7 y8 y9 y10 y11 y12 y13) (crossbuckref19_Good.l0 (k + 1) y0 y1 y2 y3 y4 y5 y6 y7 y8 y9 y10 y11 y12 y13))
  | 0 => fun _ _ _ _ _ _ _ _ _ _ _ _ _ _ r h => by simp [crossbuckref19_Good.l0] at h
  | k + 1 => by
    have ih0 := crossbuckref19_Good.mono_l k
    · intro y0 y1 y2 y3 y4 y5 y6 y7 y8 y9 y10 y11 y12 y13
      unfold crossbuckref19_Good.l0
      repeat' first
      | (with_reducible exact ih0 _ _ _ _ _ _ _ _ _ _ _ _ _ _)
      | (with_reducible exact LeO.refl _)
      | (with_reducible exact LeO.none _)
      | (with_reducible refine LeO.ite ?_ ?_)
      | (with_reducible refine LeO.bind ?_ (fun _ => ?_))
      | exact ih0 _ _ _ _ _ _ _ _ _ _ _ _ _ _
      | exact LeO.none _
      | refine LeO.ite ?_ ?_
      | refine LeO.bind ?_ (fun _ => ?_)
theorem crossbuckref19_Good.mono : ∀ a0 a1 a2 a3 a4 a5 a6 a7 a8 a9 a10 a11 a12 k, LeO (crossbuckref19_Good.f k a0 a1 a2 a3 a4 a5 a6 a7 a8 a9 a10 a11 a12) (crossbuckref19_Good.f (k + 1) a0 a1 a2 a3 a4 a5 a6 a7 a8 a9 a10 a11 a12) := by
  intro a0 a1 a2 a3 a4 a5 a6 a7 a8 a9 a10 a11 a12 k
  have ih0 := crossbuckref19_Good.mono_l k
  unfold crossbuckref19_Good.f
  repeat' first
      | (with_reducible exact ih0 _ _ _ _ _ _ _ _ _ _ _ _ _ _)
      | (with_reducible exact LeO.refl _)
      | (with_reducible exact LeO.none _)
      | (with_reducible refine LeO.ite ?_ ?_)
      | (with_reducible refine LeO.bind ?_ (fun _ => ?_))
      | exact ih0 _ _ _ _ _ _ _ _ _ _ _ _ _ _
      | exact LeO.none _
      | refine LeO.ite ?_ ?_
      | refine LeO.bind ?_ (fun _ => ?_)
set_option maxHeartbeats 8000000 in
set_option maxRecDepth 100000 in
theorem crossbuckref19_Good.calls (k : Nat) (a0_0 : Bool) (a0_1 : Bool) (a0_2 : Bool) (a0_3 : Bool) (a0_4 : Bool) (a0_5 : Bool) (a0_6 : Bool) (a0_7 : Int) (a0_8 : Bool) (a0_9 : Bool) (a0_10 : Int) (A0_11 : Option Addr) (c0_11 : Nat) (l0_11 : List (S34)) (A1 : Option Addr) (c1 : Nat) (l1 : List (S31)) (r : Bool) (w : World) (hr0_11 : Kd.C k34 w A0_11 l0_11.length l0_11) (hc0_11 : l0_11.length ≤ c0_11) (hr1 : Kd.C k31 w A1 l1.length l1) (hc1 : l1.length ≤ c1) (h : crossbuckref19_Good.f k a0_0 a0_1 a0_2 a0_3 a0_4 a0_5 a0_6 a0_7 a0_8 a0_9 a0_10 l0_11 l1 = some r) :
    Calls Try.prog 31 #[.agg #[.bool a0_0, .bool a0_1, .bool a0_2, .bool a0_3, .bool a0_4, .bool a0_5, .bool a0_6, .int .i64 a0_7, .bool a0_8, .bool a0_9, .int .i64 a0_10, .slice A0_11 l0_11.length c0_11], .slice A1 l1.length c1] w fun e w' => e = .returned (.bool r) ∧ Below w.heap.size w w' := by
  have hu43 := Try.underlying43
  have HR0_11 := Aside0.mk hr0_11
  have HC0_11 := Aside0.mk hc0_11
  clear hr0_11 hc0_11
  have HR1 := Aside0.mk hr1
  have HC1 := Aside0.mk hc1
  clear hr1 hc1
  have HB := Aside0.mk (Below.refl w.heap.size w)
  have H : (crossbuckref19_Good.l0 k l1 0 a0_0 a0_1 a0_2 a0_3 a0_4 a0_5 a0_6 a0_7 a0_8 a0_9 a0_10 l0_11) = some r := h
  clear h
  have H' := Aside0.mk H
  clear H
  go_enter Try.func31, Try.ntmps31
  go_wp2_with (first | ((with_reducible refine gate_dst (N := 2) rfl ?_); refine box_event ?hg (N := 2) ?hd (cs := #[.bool a0_0, .bool a0_1, .bool a0_2, .bool a0_3, .bool a0_4, .bool a0_5, .bool a0_6, .int .i64 a0_7, .bool a0_8, .bool a0_9, .int .i64 a0_10, .slice A0_11 l0_11.length c0_11]) (t := 43) ?hr ?_; (case hd => rfl); (case hg => rfl); (case hr => first | (go_simp; done) | (go_simp; rfl)); intro gb146 hg w3 hbox hb; have n0_ := Aside0.mk (below_step (by repeat (first | (with_reducible first | exact HB.out | apply below_alloc | apply pw_below_drewN | apply below_drew1) | exact HB.out)) hb); have n1_ := Aside0.mk (hbox); have n2_ := Aside0.mk ((by rw [hg]; exact (below_size (by repeat (first | (with_reducible first | exact HB.out | apply below_alloc | apply pw_below_drewN | apply below_drew1) | exact HB.out))) : w.heap.size ≤ gb146)); have n3_ := Aside0.mk ((by rw [hg]; exact (below_size (by repeat (first | (with_reducible first | exact HB.out | apply below_alloc | apply pw_below_drewN | apply below_drew1) | exact HB.out))) : w.heap.size ≤ gb146)); clear HB; have HB := n0_; have BK146 := n1_; have GW146 := n2_; have GE146 := n3_; clear n0_ n1_ n2_ n3_; clear hb hbox hg))
  go_loopg [5] k (fun kq v5 w' => ∃ (x5_1 : Int), v5 = .int .i64 x5_1 ∧ Aside0 (crossbuckref19_Good.l0 kq l1 x5_1 a0_0 a0_1 a0_2 a0_3 a0_4 a0_5 a0_6 a0_7 a0_8 a0_9 a0_10 l0_11 = some r) ∧ Aside0 (kq ≤ k) ∧ Aside0 (w'.heap[gb146]? = some (.cells #[.bool a0_0, .bool a0_1, .bool a0_2, .bool a0_3, .bool a0_4, .bool a0_5, .bool a0_6, .int .i64 a0_7, .bool a0_8, .bool a0_9, .int .i64 a0_10, (.slice A0_11 l0_11.length c0_11)] 43 (0, 0))) ∧ Aside0 (Below w.heap.size w w'))
  case atStart => exact ⟨(0), (by first | rfl | (simp; done) | (simp [*]; done)), H', ⟨Nat.le_refl _⟩, ⟨by (with_reducible repeat (first | refine blk_drewN ?_ _ | refine blk_drew ?_ | refine blk_alloc ?_ _)); exact BK146.out⟩, ⟨by repeat (first | (with_reducible first | exact HB.out | apply below_alloc | apply pw_below_drewN | apply below_drew1 | refine below_set ?_ GE146.out) | exact HB.out)⟩⟩
  case round =>
    clear H'
    try clear c1
    try clear p2
    try clear c3
    obtain ⟨x5_1, rfl, HA, HK1, BK146, HB⟩ := hrel
    cases gk with
    | zero => exact absurd HA.out (by simp [crossbuckref19_Good.l0])
    | succ k1 =>
      have H := HA.out
      clear HA
      simp only [crossbuckref19_Good.l0] at H
      by_cases c4 : x5_1 < (l1.length : Int)
      · rw [if_pos c4] at H
        have c4b0 : decide (x5_1 < (l1.length : Int)) = true := decide_eq_true c4
        clear c4
        by_cases c5 : 0 ≤ x5_1
        · rw [if_pos c5] at H
          have c5b0 : decide (0 ≤ x5_1) = true := decide_eq_true c5
          clear c5
          obtain ⟨bq6, hbq6⟩ : ∃ b_ : Bool, b_ = ((rd_T31 l1 x5_1).f4) := ⟨_, rfl⟩
          replace H : (if bq6 = true then (some false) else (crossbuckref19_Good.l0 k1 l1 (wrap64 (x5_1 + 1)) a0_0 a0_1 a0_2 a0_3 a0_4 a0_5 a0_6 a0_7 a0_8 a0_9 a0_10 l0_11)) = some r := by rw [← hbq6] at H; exact H
          have Nbq6 := Aside0.mk hbq6
          clear hbq6
          by_cases c7 : bq6 = true
          · subst c7
            have H1 : (some false) = some r := by rw [if_pos rfl] at H; exact H
            clear H
            have H := H1
            clear H1
            obtain rfl := Option.some.inj H
            have p147 : 0 ≤ (x5_1 : Int) := of_decide_eq_true (by first | (with_reducible assumption) | assumption)
            have q147 : x5_1 < (l1.length : Int) := of_decide_eq_true (by first | (with_reducible assumption) | assumption)
            obtain ⟨ad147, e147, hx147_0, hx147_1, hx147_2, hx147_3, hx147_4, hx147_5, hx147_6, hx147_7, hx147_8, hx147_9, hx147_10⟩ := at_T31 HR1.out x5_1 p147 q147
            (try rw [← Nbq6.out] at hx147_0)
            (try rw [← Nbq6.out] at hx147_3)
            (try rw [← Nbq6.out] at hx147_6)
            (try rw [← Nbq6.out] at hx147_7)
            (try rw [← Nbq6.out] at hx147_9)
            (try rw [← Nbq6.out] at hx147_10)
            cases e147
            replace hx147_0 := (HB.out.cell (World.block_lt_of_cell? w _ hx147_0)).trans hx147_0
            replace hx147_1 := (HB.out.cell (World.block_lt_of_cell? w _ hx147_1)).trans hx147_1
            replace hx147_2 := (HB.out.cell (World.block_lt_of_cell? w _ hx147_2)).trans hx147_2
            replace hx147_3 := (HB.out.cell (World.block_lt_of_cell? w _ hx147_3)).trans hx147_3
            replace hx147_4 := (HB.out.cell (World.block_lt_of_cell? w _ hx147_4)).trans hx147_4
            replace hx147_5 := (HB.out.cell (World.block_lt_of_cell? w _ hx147_5)).trans hx147_5
            replace hx147_6 := (HB.out.cell (World.block_lt_of_cell? w _ hx147_6)).trans hx147_6
            replace hx147_7 := (HB.out.cell (World.block_lt_of_cell? w _ hx147_7)).trans hx147_7
            replace hx147_8 := (HB.out.cell (World.block_lt_of_cell? w _ hx147_8)).trans hx147_8
            replace hx147_9 := (HB.out.cell (World.block_lt_of_cell? w _ hx147_9)).trans hx147_9
            replace hx147_10 := (HB.out.cell (World.block_lt_of_cell? w _ hx147_10)).trans hx147_10
            replace p147 := eq_true p147
            replace q147 := eq_true q147
            go_wp2
            go_ret
            exact ⟨by first | rfl | (simp [errW_none, errW_some] <;> rfl) | (simp [*, errW_none, errW_some] <;> rfl), by repeat (first | (with_reducible first | exact HB.out | apply below_alloc | apply pw_below_drewN | apply below_drew1 | refine below_set ?_ GE146.out) | exact HB.out)⟩
          · replace c7 := Bool.eq_false_iff.mpr c7
            subst c7
            have H1 : (crossbuckref19_Good.l0 k1 l1 (wrap64 (x5_1 + 1)) a0_0 a0_1 a0_2 a0_3 a0_4 a0_5 a0_6 a0_7 a0_8 a0_9 a0_10 l0_11) = some r := by rw [if_neg (show ¬ (false = true) by decide)] at H; exact H
            clear H
            have H := H1
            clear H1
            have H' := Aside0.mk H
            clear H
            have p147 : 0 ≤ (x5_1 : Int) := of_decide_eq_true (by first | (with_reducible assumption) | assumption)
            have q147 : x5_1 < (l1.length : Int) := of_decide_eq_true (by first | (with_reducible assumption) | assumption)
            obtain ⟨ad147, e147, hx147_0, hx147_1, hx147_2, hx147_3, hx147_4, hx147_5, hx147_6, hx147_7, hx147_8, hx147_9, hx147_10⟩ := at_T31 HR1.out x5_1 p147 q147
            (try rw [← Nbq6.out] at hx147_0)
            (try rw [← Nbq6.out] at hx147_3)
            (try rw [← Nbq6.out] at hx147_6)
            (try rw [← Nbq6.out] at hx147_7)
            (try rw [← Nbq6.out] at hx147_9)
            (try rw [← Nbq6.out] at hx147_10)
            cases e147
            replace hx147_0 := (HB.out.cell (World.block_lt_of_cell? w _ hx147_0)).trans hx147_0
            replace hx147_1 := (HB.out.cell (World.block_lt_of_cell? w _ hx147_1)).trans hx147_1
            replace hx147_2 := (HB.out.cell (World.block_lt_of_cell? w _ hx147_2)).trans hx147_2
            replace hx147_3 := (HB.out.cell (World.block_lt_of_cell? w _ hx147_3)).trans hx147_3
            replace hx147_4 := (HB.out.cell (World.block_lt_of_cell? w _ hx147_4)).trans hx147_4
            replace hx147_5 := (HB.out.cell (World.block_lt_of_cell? w _ hx147_5)).trans hx147_5
            replace hx147_6 := (HB.out.cell (World.block_lt_of_cell? w _ hx147_6)).trans hx147_6
            replace hx147_7 := (HB.out.cell (World.block_lt_of_cell? w _ hx147_7)).trans hx147_7
            replace hx147_8 := (HB.out.cell (World.block_lt_of_cell? w _ hx147_8)).trans hx147_8
            replace hx147_9 := (HB.out.cell (World.block_lt_of_cell? w _ hx147_9)).trans hx147_9
            replace hx147_10 := (HB.out.cell (World.block_lt_of_cell? w _ hx147_10)).trans hx147_10
            replace p147 := eq_true p147
            replace q147 := eq_true q147
            go_wp2
            go_roundg k1
            case measure => have := HK1.out; omega
            case rel => exact ⟨(wrap64 (x5_1 + 1)), (by first | rfl | (simp; done) | (simp [*]; done)), H', ⟨by have := HK1.out; omega⟩, ⟨by (with_reducible repeat (first | refine blk_drewN ?_ _ | refine blk_drew ?_ | refine blk_alloc ?_ _)); exact BK146.out⟩, ⟨by repeat (first | (with_reducible first | exact HB.out | apply below_alloc | apply pw_below_drewN | apply below_drew1 | refine below_set ?_ GE146.out) | exact HB.out)⟩⟩
        · rw [if_neg c5] at H
          exact absurd H (by simp)
      · rw [if_neg c4] at H
        have c4b0 : decide (x5_1 < (l1.length : Int)) = false := decide_eq_false c4
        clear c4
        by_cases c8 : a0_7 = 1
        · rw [if_pos c8] at H
          have c8b0 : (a0_7 == 1) = true := beq_iff_eq.mpr c8
          have c8b1 : (a0_7 != 1) = false := bne_eq_false_iff_eq.mpr c8
          clear c8
          obtain rfl := Option.some.inj H
          have hcz9_0 : wr.cell? ⟨gb146, 0, none⟩ = some (.bool a0_0) := (blk_cell BK146.out 0).trans rfl
          have hcz9_1 : wr.cell? ⟨gb146, 1, none⟩ = some (.bool a0_1) := (blk_cell BK146.out 1).trans rfl
          have hcz9_2 : wr.cell? ⟨gb146, 2, none⟩ = some (.bool a0_2) := (blk_cell BK146.out 2).trans rfl
          have hcz9_3 : wr.cell? ⟨gb146, 3, none⟩ = some (.bool a0_3) := (blk_cell BK146.out 3).trans rfl
          have hcz9_4 : wr.cell? ⟨gb146, 4, none⟩ = some (.bool a0_4) := (blk_cell BK146.out 4).trans rfl
          have hcz9_5 : wr.cell? ⟨gb146, 5, none⟩ = some (.bool a0_5) := (blk_cell BK146.out 5).trans rfl
          have hcz9_6 : wr.cell? ⟨gb146, 6, none⟩ = some (.bool a0_6) := (blk_cell BK146.out 6).trans rfl
          have hcz9_7 : wr.cell? ⟨gb146, 7, none⟩ = some (.int .i64 a0_7) := (blk_cell BK146.out 7).trans rfl
          have hcz9_8 : wr.cell? ⟨gb146, 8, none⟩ = some (.bool a0_8) := (blk_cell BK146.out 8).trans rfl
          have hcz9_9 : wr.cell? ⟨gb146, 9, none⟩ = some (.bool a0_9) := (blk_cell BK146.out 9).trans rfl
          have hcz9_10 : wr.cell? ⟨gb146, 10, none⟩ = some (.int .i64 a0_10) := (blk_cell BK146.out 10).trans rfl
          have hcz9_11 : wr.cell? ⟨gb146, 11, none⟩ = some (.slice A0_11 l0_11.length c0_11) := (blk_cell BK146.out 11).trans rfl
          have hfz9_0 := blk_frozen BK146.out 0
          have hfz9_1 := blk_frozen BK146.out 1
          have hfz9_2 := blk_frozen BK146.out 2
          have hfz9_3 := blk_frozen BK146.out 3
          have hfz9_4 := blk_frozen BK146.out 4
          have hfz9_5 := blk_frozen BK146.out 5
          have hfz9_6 := blk_frozen BK146.out 6
          have hfz9_7 := blk_frozen BK146.out 7
          have hfz9_8 := blk_frozen BK146.out 8
          have hfz9_9 := blk_frozen BK146.out 9
          have hfz9_10 := blk_frozen BK146.out 10
          have hfz9_11 := blk_frozen BK146.out 11
          go_wp2
          go_ret
          exact ⟨by first | rfl | (simp [errW_none, errW_some] <;> rfl) | (simp [*, errW_none, errW_some] <;> rfl), by repeat (first | (with_reducible first | exact HB.out | apply below_alloc | apply pw_below_drewN | apply below_drew1 | refine below_set ?_ GE146.out) | exact HB.out)⟩
        · rw [if_neg c8] at H
          have c8b0 : (a0_7 == 1) = false := beq_eq_false_iff_ne.mpr c8
          have c8b1 : (a0_7 != 1) = true := bne_iff_ne.mpr c8
          by_cases c10 : a0_8 = true
          · subst c10
            have H1 : (some a0_5) = some r := by rw [if_pos rfl] at H; exact H
            clear H
            have H := H1
            clear H1
            obtain rfl := Option.some.inj H
            have hcz11_0 : wr.cell? ⟨gb146, 0, none⟩ = some (.bool a0_0) := (blk_cell BK146.out 0).trans rfl
            have hcz11_1 : wr.cell? ⟨gb146, 1, none⟩ = some (.bool a0_1) := (blk_cell BK146.out 1).trans rfl
            have hcz11_2 : wr.cell? ⟨gb146, 2, none⟩ = some (.bool a0_2) := (blk_cell BK146.out 2).trans rfl
            have hcz11_3 : wr.cell? ⟨gb146, 3, none⟩ = some (.bool a0_3) := (blk_cell BK146.out 3).trans rfl
            have hcz11_4 : wr.cell? ⟨gb146, 4, none⟩ = some (.bool a0_4) := (blk_cell BK146.out 4).trans rfl
            have hcz11_5 : wr.cell? ⟨gb146, 5, none⟩ = some (.bool a0_5) := (blk_cell BK146.out 5).trans rfl
            have hcz11_6 : wr.cell? ⟨gb146, 6, none⟩ = some (.bool a0_6) := (blk_cell BK146.out 6).trans rfl
            have hcz11_7 : wr.cell? ⟨gb146, 7, none⟩ = some (.int .i64 a0_7) := (blk_cell BK146.out 7).trans rfl
            have hcz11_8 : wr.cell? ⟨gb146, 8, none⟩ = some (.bool true) := (blk_cell BK146.out 8).trans rfl
            have hcz11_9 : wr.cell? ⟨gb146, 9, none⟩ = some (.bool a0_9) := (blk_cell BK146.out 9).trans rfl
            have hcz11_10 : wr.cell? ⟨gb146, 10, none⟩ = some (.int .i64 a0_10) := (blk_cell BK146.out 10).trans rfl
            have hcz11_11 : wr.cell? ⟨gb146, 11, none⟩ = some (.slice A0_11 l0_11.length c0_11) := (blk_cell BK146.out 11).trans rfl
            have hfz11_0 := blk_frozen BK146.out 0
            have hfz11_1 := blk_frozen BK146.out 1
            have hfz11_2 := blk_frozen BK146.out 2
            have hfz11_3 := blk_frozen BK146.out 3
            have hfz11_4 := blk_frozen BK146.out 4
            have hfz11_5 := blk_frozen BK146.out 5
            have hfz11_6 := blk_frozen BK146.out 6
            have hfz11_7 := blk_frozen BK146.out 7
            have hfz11_8 := blk_frozen BK146.out 8
            have hfz11_9 := blk_frozen BK146.out 9
            have hfz11_10 := blk_frozen BK146.out 10
            have hfz11_11 := blk_frozen BK146.out 11
            go_wp2
            go_ret
            exact ⟨by first | rfl | (simp [errW_none, errW_some] <;> rfl) | (simp [*, errW_none, errW_some] <;> rfl), by repeat (first | (with_reducible first | exact HB.out | apply below_alloc | apply pw_below_drewN | apply below_drew1 | refine below_set ?_ GE146.out) | exact HB.out)⟩
          · replace c10 := Bool.eq_false_iff.mpr c10
            subst c10
            have H1 : (some false) = some r := by rw [if_neg (show ¬ (false = true) by decide)] at H; exact H
            clear H
            have H := H1
            clear H1
            obtain rfl := Option.some.inj H
            have hcz12_0 : wr.cell? ⟨gb146, 0, none⟩ = some (.bool a0_0) := (blk_cell BK146.out 0).trans rfl
            have hcz12_1 : wr.cell? ⟨gb146, 1, none⟩ = some (.bool a0_1) := (blk_cell BK146.out 1).trans rfl
            have hcz12_2 : wr.cell? ⟨gb146, 2, none⟩ = some (.bool a0_2) := (blk_cell BK146.out 2).trans rfl
            have hcz12_3 : wr.cell? ⟨gb146, 3, none⟩ = some (.bool a0_3) := (blk_cell BK146.out 3).trans rfl
            have hcz12_4 : wr.cell? ⟨gb146, 4, none⟩ = some (.bool a0_4) := (blk_cell BK146.out 4).trans rfl
            have hcz12_5 : wr.cell? ⟨gb146, 5, none⟩ = some (.bool a0_5) := (blk_cell BK146.out 5).trans rfl
            have hcz12_6 : wr.cell? ⟨gb146, 6, none⟩ = some (.bool a0_6) := (blk_cell BK146.out 6).trans rfl
            have hcz12_7 : wr.cell? ⟨gb146, 7, none⟩ = some (.int .i64 a0_7) := (blk_cell BK146.out 7).trans rfl
            have hcz12_8 : wr.cell? ⟨gb146, 8, none⟩ = some (.bool false) := (blk_cell BK146.out 8).trans rfl
            have hcz12_9 : wr.cell? ⟨gb146, 9, none⟩ = some (.bool a0_9) := (blk_cell BK146.out 9).trans rfl
            have hcz12_10 : wr.cell? ⟨gb146, 10, none⟩ = some (.int .i64 a0_10) := (blk_cell BK146.out 10).trans rfl
            have hcz12_11 : wr.cell? ⟨gb146, 11, none⟩ = some (.slice A0_11 l0_11.length c0_11) := (blk_cell BK146.out 11).trans rfl
            have hfz12_0 := blk_frozen BK146.out 0
            have hfz12_1 := blk_frozen BK146.out 1
            have hfz12_2 := blk_frozen BK146.out 2
            have hfz12_3 := blk_frozen BK146.out 3
            have hfz12_4 := blk_frozen BK146.out 4
            have hfz12_5 := blk_frozen BK146.out 5
            have hfz12_6 := blk_frozen BK146.out 6
            have hfz12_7 := blk_frozen BK146.out 7
            have hfz12_8 := blk_frozen BK146.out 8
            have hfz12_9 := blk_frozen BK146.out 9
            have hfz12_10 := blk_frozen BK146.out 10
            have hfz12_11 := blk_frozen BK146.out 11
            go_wp2
            go_ret
            exact ⟨by first | rfl | (simp [errW_none, errW_some] <;> rfl) | (simp [*, errW_none, errW_some] <;> rfl), by repeat (first | (with_reducible first | exact HB.out | apply below_alloc | apply pw_below_drewN | apply below_drew1 | refine below_set ?_ GE146.out) | exact HB.out)⟩

/-! ### crossbuckref23_Signals: function 19 -/
def crossbuckref23_Signals.f (k : Nat) (a0_0 : Bool) (a0_1 : Bool) (a0_2 : Bool) (a0_3 : Bool) (a0_4 : Bool) (a0_5 : Bool) (a0_6 : Bool) (a0_7 : Int) (a0_8 : Bool) (a0_9 : Bool) (a0_10 : Int) (l0_11 : List (S34)) (l1 : List (S31)) (a2_0 : Int) (a2_1 : Int) (a3 : Bool) : Option (Int) := (crossbuckref19_Good.f k a0_0 a0_1 a0_2 a0_3 a0_4 a0_5 a0_6 a0_7 a0_8 a0_9 a0_10 l0_11 l1).bind fun t150 => (if a2_0 = 5 then (if a3 = true then (if a0_7 = 0 then (if t150 = true then (if a0_10 < 0 then (some 0) else (some (Go.bits .and .i64 a0_10 (wrap64 ((wrap64 (2 ^ (mn (l1.length : Int) 62).toNat)) - 1))))) else (some 0)) else (some 0)) else (some 0)) else (some 0))
theorem crossbuckref23_Signals.mono : ∀ a0 a1 a2 a3 a4 a5 a6 a7 a8 a9 a10 a11 a12 a13 a14 a15 k, LeO (crossbuckref23_Signals.f k a0 a1 a2 a3 a4 a5 a6 a7 a8 a9 a10 a11 a12 a13 a14 a15) (crossbuckref23_Signals.f (k + 1) a0 a1 a2 a3 a4 a5 a6 a7 a8 a9 a10 a11 a12 a13 a14 a15) := by
  intro a0 a1 a2 a3 a4 a5 a6 a7 a8 a9 a10 a11 a12 a13 a14 a15 k
  unfold crossbuckref23_Signals.f
  repeat' first
      | (with_reducible exact crossbuckref19_Good.mono _ _ _ _ _ _ _ _ _ _ _ _ _ _)
      | (with_reducible exact LeO.refl _)
      | (with_reducible exact LeO.none _)
      | (with_reducible refine LeO.ite ?_ ?_)
      | (with_reducible refine LeO.bind ?_ (fun _ => ?_))
      | exact crossbuckref19_Good.mono _ _ _ _ _ _ _ _ _ _ _ _ _ _
      | exact LeO.none _
      | refine LeO.ite ?_ ?_
      | refine LeO.bind ?_ (fun _ => ?_)
set_option maxHeartbeats 8000000 in
set_option maxRecDepth 100000 in
theorem crossbuckref23_Signals.calls (k : Nat) (a0_0 : Bool) (a0_1 : Bool) (a0_2 : Bool) (a0_3 : Bool) (a0_4 : Bool) (a0_5 : Bool) (a0_6 : Bool) (a0_7 : Int) (a0_8 : Bool) (a0_9 : Bool) (a0_10 : Int) (A0_11 : Option Addr) (c0_11 : Nat) (l0_11 : List (S34)) (A1 : Option Addr) (c1 : Nat) (l1 : List (S31)) (a2_0 : Int) (a2_1 : Int) (a3 : Bool) (r : Int) (w : World) (hr0_11 : Kd.C k34 w A0_11 l0_11.length l0_11) (hc0_11 : l0_11.length ≤ c0_11) (hr1 : Kd.C k31 w A1 l1.length l1) (hc1 : l1.length ≤ c1) (h : crossbuckref23_Signals.f k a0_0 a0_1 a0_2 a0_3 a0_4 a0_5 a0_6 a0_7 a0_8 a0_9 a0_10 l0_11 l1 a2_0 a2_1 a3 = some r) :
    Calls Try.prog 19 #[.agg #[.bool a0_0, .bool a0_1, .bool a0_2, .bool a0_3, .bool a0_4, .bool a0_5, .bool a0_6, .int .i64 a0_7, .bool a0_8, .bool a0_9, .int .i64 a0_10, .slice A0_11 l0_11.length c0_11], .slice A1 l1.length c1, .agg #[.int .i64 a2_0, .int .i64 a2_1], .bool a3] w fun e w' => e = .returned (.int .i64 r) ∧ Below w.heap.size w w' := by
  have hu43 := Try.underlying43
  have hu46 := Try.underlying46
  have HR0_11 := Aside0.mk hr0_11
  have HC0_11 := Aside0.mk hc0_11
  clear hr0_11 hc0_11
  have HR1 := Aside0.mk hr1
  have HC1 := Aside0.mk hc1
  clear hr1 hc1
  have HB := Aside0.mk (Below.refl w.heap.size w)
  have H : ((crossbuckref19_Good.f k a0_0 a0_1 a0_2 a0_3 a0_4 a0_5 a0_6 a0_7 a0_8 a0_9 a0_10 l0_11 l1).bind fun t150 => (if a2_0 = 5 then (if a3 = true then (if a0_7 = 0 then (if t150 = true then (if a0_10 < 0 then (some 0) else (some (Go.bits .and .i64 a0_10 (wrap64 ((wrap64 (2 ^ (mn (l1.length : Int) 62).toNat)) - 1))))) else (some 0)) else (some 0)) else (some 0)) else (some 0))) = some r := h
  clear h
  replace H := Option.bind_eq_some_iff.mp H
  obtain ⟨t150, A50, H⟩ := H
  replace H : (if a2_0 = 5 then (if a3 = true then (if a0_7 = 0 then (if t150 = true then (if a0_10 < 0 then (some 0) else (some (Go.bits .and .i64 a0_10 (wrap64 ((wrap64 (2 ^ (mn (l1.length : Int) 62).toNat)) - 1))))) else (some 0)) else (some 0)) else (some 0)) else (some 0)) = some r := H
  have A5 := Aside0.mk A50
  clear A50
  by_cases c6 : a2_0 = 5
  · rw [if_pos c6] at H
    have c6b0 : (a2_0 == 5) = true := beq_iff_eq.mpr c6
    have c6b1 : (a2_0 != 5) = false := bne_eq_false_iff_eq.mpr c6
    clear c6
    by_cases c7 : a3 = true
    · subst c7
      have H1 : (if a0_7 = 0 then (if t150 = true then (if a0_10 < 0 then (some 0) else (some (Go.bits .and .i64 a0_10 (wrap64 ((wrap64 (2 ^ (mn (l1.length : Int) 62).toNat)) - 1))))) else (some 0)) else (some 0)) = some r := by rw [if_pos rfl] at H; exact H
      clear H
      have H := H1
      clear H1
      by_cases c8 : a0_7 = 0
      · rw [if_pos c8] at H
        have c8b0 : (a0_7 == 0) = true := beq_iff_eq.mpr c8
        have c8b1 : (a0_7 != 0) = false := bne_eq_false_iff_eq.mpr c8
        clear c8
        by_cases c9 : t150 = true
        · subst c9
          have H1 : (if a0_10 < 0 then (some 0) else (some (Go.bits .and .i64 a0_10 (wrap64 ((wrap64 (2 ^ (mn (l1.length : Int) 62).toNat)) - 1))))) = some r := by rw [if_pos rfl] at H; exact H
          clear H
          have H := H1
          clear H1
          by_cases c10 : a0_10 < 0
          · rw [if_pos c10] at H
            have c10b0 : decide (a0_10 < 0) = true := decide_eq_true c10
            clear c10
            obtain rfl := Option.some.inj H
            go_enter Try.func19, Try.ntmps19
            go_wp2_with (first | ((with_reducible refine gate_dst (N := 4) rfl ?_); refine box_event ?hg (N := 4) ?hd (cs := #[.bool a0_0, .bool a0_1, .bool a0_2, .bool a0_3, .bool a0_4, .bool a0_5, .bool a0_6, .int .i64 a0_7, .bool a0_8, .bool a0_9, .int .i64 a0_10, .slice A0_11 l0_11.length c0_11]) (t := 43) ?hr ?_; (case hd => rfl); (case hg => rfl); (case hr => first | (go_simp; done) | (go_simp; rfl)); intro gb148 hg w11 hbox hb; have n0_ := Aside0.mk (below_step (by repeat (first | (with_reducible first | exact HB.out | apply below_alloc | apply pw_below_drewN | apply below_drew1) | exact HB.out)) hb); have n1_ := Aside0.mk (hbox); have n2_ := Aside0.mk ((by rw [hg]; exact (below_size (by repeat (first | (with_reducible first | exact HB.out | apply below_alloc | apply pw_below_drewN | apply below_drew1) | exact HB.out))) : w.heap.size ≤ gb148)); have n3_ := Aside0.mk ((by rw [hg]; exact (below_size (by repeat (first | (with_reducible first | exact HB.out | apply below_alloc | apply pw_below_drewN | apply below_drew1) | exact HB.out))) : w.heap.size ≤ gb148)); clear HB; have HB := n0_; have BK148 := n1_; have GW148 := n2_; have GE148 := n3_; clear n0_ n1_ n2_ n3_; clear hb hbox hg) | ((with_reducible refine gate_dst (N := 6) rfl ?_); refine box_event ?hg (N := 6) ?hd (cs := #[.int .i64 a2_0, .int .i64 a2_1]) (t := 46) ?hr ?_; (case hd => rfl); (case hg => rfl); (case hr => first | (go_simp; done) | (go_simp; rfl)); intro gb149 hg w12 hbox hb; have n0_ := Aside0.mk (blk_below (g := gb148) (o := .cells #[.bool a0_0, .bool a0_1, .bool a0_2, .bool a0_3, .bool a0_4, .bool a0_5, .bool a0_6, .int .i64 a0_7, .bool a0_8, .bool a0_9, .int .i64 a0_10, .slice A0_11 l0_11.length c0_11] 43 (0, 0)) (by (with_reducible repeat (first | refine blk_drewN ?_ _ | refine blk_drew ?_ | refine blk_alloc ?_ _)); exact BK148.out) hb); have n1_ := Aside0.mk (below_step (by repeat (first | (with_reducible first | exact HB.out | apply below_alloc | apply pw_below_drewN | apply below_drew1 | refine below_set ?_ GE148.out) | exact HB.out)) hb); have n2_ := Aside0.mk (hbox); have n3_ := Aside0.mk ((by rw [hg]; exact (below_size (by repeat (first | (with_reducible first | exact HB.out | apply below_alloc | apply pw_below_drewN | apply below_drew1 | refine below_set ?_ GE148.out) | exact HB.out))) : w.heap.size ≤ gb149)); have n4_ := Aside0.mk ((by rw [hg]; exact (below_size (by repeat (first | (with_reducible first | exact HB.out | apply below_alloc | apply pw_below_drewN | apply below_drew1 | refine below_set ?_ GE148.out) | exact HB.out))) : w.heap.size ≤ gb149)); have n5_ := Aside0.mk ((by rw [hg]; exact Nat.ne_of_lt (blk_lt (g := gb148) (o := .cells #[.bool a0_0, .bool a0_1, .bool a0_2, .bool a0_3, .bool a0_4, .bool a0_5, .bool a0_6, .int .i64 a0_7, .bool a0_8, .bool a0_9, .int .i64 a0_10, .slice A0_11 l0_11.length c0_11] 43 (0, 0)) (by (with_reducible repeat (first | refine blk_drewN ?_ _ | refine blk_drew ?_ | refine blk_alloc ?_ _)); exact BK148.out)) : gb148 ≠ gb149)); have n6_ := Aside0.mk ((by rw [hg]; exact Nat.ne_of_gt (blk_lt (g := gb148) (o := .cells #[.bool a0_0, .bool a0_1, .bool a0_2, .bool a0_3, .bool a0_4, .bool a0_5, .bool a0_6, .int .i64 a0_7, .bool a0_8, .bool a0_9, .int .i64 a0_10, .slice A0_11 l0_11.length c0_11] 43 (0, 0)) (by (with_reducible repeat (first | refine blk_drewN ?_ _ | refine blk_drew ?_ | refine blk_alloc ?_ _)); exact BK148.out)) : gb149 ≠ gb148)); clear BK148; clear HB; have BK148 := n0_; have HB := n1_; have BK149 := n2_; have GW149 := n3_; have GE149 := n4_; have NB148_149 := n5_; have NB149_148 := n6_; clear n0_ n1_ n2_ n3_ n4_ n5_ n6_; clear hb hbox hg; have hnb13 := NB148_149.out; have hnc13 := NB149_148.out; have hcz14_0 : w12.cell? ⟨gb148, 0, none⟩ = some (.bool a0_0) := (blk_cell BK148.out 0).trans rfl; have hcz14_1 : w12.cell? ⟨gb148, 1, none⟩ = some (.bool a0_1) := (blk_cell BK148.out 1).trans rfl; have hcz14_2 : w12.cell? ⟨gb148, 2, none⟩ = some (.bool a0_2) := (blk_cell BK148.out 2).trans rfl; have hcz14_3 : w12.cell? ⟨gb148, 3, none⟩ = some (.bool a0_3) := (blk_cell BK148.out 3).trans rfl; have hcz14_4 : w12.cell? ⟨gb148, 4, none⟩ = some (.bool a0_4) := (blk_cell BK148.out 4).trans rfl; have hcz14_5 : w12.cell? ⟨gb148, 5, none⟩ = some (.bool a0_5) := (blk_cell BK148.out 5).trans rfl; have hcz14_6 : w12.cell? ⟨gb148, 6, none⟩ = some (.bool a0_6) := (blk_cell BK148.out 6).trans rfl; have hcz14_7 : w12.cell? ⟨gb148, 7, none⟩ = some (.int .i64 a0_7) := (blk_cell BK148.out 7).trans rfl; have hcz14_8 : w12.cell? ⟨gb148, 8, none⟩ = some (.bool a0_8) := (blk_cell BK148.out 8).trans rfl; have hcz14_9 : w12.cell? ⟨gb148, 9, none⟩ = some (.bool a0_9) := (blk_cell BK148.out 9).trans rfl; have hcz14_10 : w12.cell? ⟨gb148, 10, none⟩ = some (.int .i64 a0_10) := (blk_cell BK148.out 10).trans rfl; have hcz14_11 : w12.cell? ⟨gb148, 11, none⟩ = some (.slice A0_11 l0_11.length c0_11) := (blk_cell BK148.out 11).trans rfl; have hfz14_0 := blk_frozen BK148.out 0; have hfz14_1 := blk_frozen BK148.out 1; have hfz14_2 := blk_frozen BK148.out 2; have hfz14_3 := blk_frozen BK148.out 3; have hfz14_4 := blk_frozen BK148.out 4; have hfz14_5 := blk_frozen BK148.out 5; have hfz14_6 := blk_frozen BK148.out 6; have hfz14_7 := blk_frozen BK148.out 7; have hfz14_8 := blk_frozen BK148.out 8; have hfz14_9 := blk_frozen BK148.out 9; have hfz14_10 := blk_frozen BK148.out 10; have hfz14_11 := blk_frozen BK148.out 11) | ((with_reducible refine gate_callee (f := 31) rfl ?_); refine goesL_ (some 12) rfl rfl Try.func31 (by kernel_rfl) rfl #[.agg #[.bool a0_0, .bool a0_1, .bool a0_2, .bool a0_3, .bool a0_4, .bool a0_5, .bool a0_6, .int .i64 a0_7, .bool a0_8, .bool a0_9, .int .i64 a0_10, .slice A0_11 l0_11.length c0_11], .slice A1 l1.length c1] rfl (by (try simp only [List.map_toArray, List.map_cons, List.map_nil]); first | done | rfl | (simp only [List.length_drop, List.length_take]; rfl)) ?_; (with_reducible refine (crossbuckref19_Good.calls k a0_0 a0_1 a0_2 a0_3 a0_4 a0_5 a0_6 a0_7 a0_8 a0_9 a0_10 _ _ l0_11 _ _ l1 true _ ?side1 ?side2 ?side3 ?side4 A5.out).mono ?_); (case side1 => repeat (first | exact (Kd.C_below HR0_11.out HB.out) | (with_reducible refine Kd.C_alloc ?_ _) | (with_reducible refine Kd.C_drewN ?_ _) | (with_reducible refine Kd.C_drew ?_))); (case side2 => exact HC0_11.out); (case side3 => repeat (first | exact (Kd.C_below HR1.out HB.out) | (with_reducible refine Kd.C_alloc ?_ _) | (with_reducible refine Kd.C_drewN ?_ _) | (with_reducible refine Kd.C_drew ?_))); (case side4 => exact HC1.out); rintro e w15 ⟨rfl, hb⟩; refine ⟨_, rfl, ?_⟩; have n0_ := Aside0.mk (blk_below (g := gb148) (o := .cells #[.bool a0_0, .bool a0_1, .bool a0_2, .bool a0_3, .bool a0_4, .bool a0_5, .bool a0_6, .int .i64 a0_7, .bool a0_8, .bool a0_9, .int .i64 a0_10, .slice A0_11 l0_11.length c0_11] 43 (0, 0)) (by (with_reducible repeat (first | refine blk_drewN ?_ _ | refine blk_drew ?_ | refine blk_alloc ?_ _)); exact BK148.out) hb); have n1_ := Aside0.mk (blk_below (g := gb149) (o := .cells #[.int .i64 a2_0, .int .i64 a2_1] 46 (0, 0)) (by (with_reducible repeat (first | refine blk_drewN ?_ _ | refine blk_drew ?_ | refine blk_alloc ?_ _)); exact BK149.out) hb); have n2_ := Aside0.mk (below_step (by repeat (first | (with_reducible first | exact HB.out | apply below_alloc | apply pw_below_drewN | apply below_drew1 | refine below_set ?_ GE148.out | refine below_set ?_ GE149.out) | exact HB.out)) hb); clear BK148; clear BK149; clear HB; have BK148 := n0_; have BK149 := n1_; have HB := n2_; clear n0_ n1_ n2_; (try clear hb); (try clear hb2); (try clear hk); (try clear hi); have hcz16_0 : w15.cell? ⟨gb149, 0, none⟩ = some (.int .i64 a2_0) := (blk_cell BK149.out 0).trans rfl; have hcz16_1 : w15.cell? ⟨gb149, 1, none⟩ = some (.int .i64 a2_1) := (blk_cell BK149.out 1).trans rfl; have hfz16_0 := blk_frozen BK149.out 0; have hfz16_1 := blk_frozen BK149.out 1; have hcz17_0 : w15.cell? ⟨gb148, 0, none⟩ = some (.bool a0_0) := (blk_cell BK148.out 0).trans rfl; have hcz17_1 : w15.cell? ⟨gb148, 1, none⟩ = some (.bool a0_1) := (blk_cell BK148.out 1).trans rfl; have hcz17_2 : w15.cell? ⟨gb148, 2, none⟩ = some (.bool a0_2) := (blk_cell BK148.out 2).trans rfl; have hcz17_3 : w15.cell? ⟨gb148, 3, none⟩ = some (.bool a0_3) := (blk_cell BK148.out 3).trans rfl; have hcz17_4 : w15.cell? ⟨gb148, 4, none⟩ = some (.bool a0_4) := (blk_cell BK148.out 4).trans rfl; have hcz17_5 : w15.cell? ⟨gb148, 5, none⟩ = some (.bool a0_5) := (blk_cell BK148.out 5).trans rfl; have hcz17_6 : w15.cell? ⟨gb148, 6, none⟩ = some (.bool a0_6) := (blk_cell BK148.out 6).trans rfl; have hcz17_7 : w15.cell? ⟨gb148, 7, none⟩ = some (.int .i64 a0_7) := (blk_cell BK148.out 7).trans rfl; have hcz17_8 : w15.cell? ⟨gb148, 8, none⟩ = some (.bool a0_8) := (blk_cell BK148.out 8).trans rfl; have hcz17_9 : w15.cell? ⟨gb148, 9, none⟩ = some (.bool a0_9) := (blk_cell BK148.out 9).trans rfl; have hcz17_10 : w15.cell? ⟨gb148, 10, none⟩ = some (.int .i64 a0_10) := (blk_cell BK148.out 10).trans rfl; have hcz17_11 : w15.cell? ⟨gb148, 11, none⟩ = some (.slice A0_11 l0_11.length c0_11) := (blk_cell BK148.out 11).trans rfl; have hfz17_0 := blk_frozen BK148.out 0; have hfz17_1 := blk_frozen BK148.out 1; have hfz17_2 := blk_frozen BK148.out 2; have hfz17_3 := blk_frozen BK148.out 3; have hfz17_4 := blk_frozen BK148.out 4; have hfz17_5 := blk_frozen BK148.out 5; have hfz17_6 := blk_frozen BK148.out 6; have hfz17_7 := blk_frozen BK148.out 7; have hfz17_8 := blk_frozen BK148.out 8; have hfz17_9 := blk_frozen BK148.out 9; have hfz17_10 := blk_frozen BK148.out 10; have hfz17_11 := blk_frozen BK148.out 11))
            go_ret
            exact ⟨by first | rfl | (simp [errW_none, errW_some] <;> rfl) | (simp [*, errW_none, errW_some] <;> rfl), by repeat (first | (with_reducible first | exact HB.out | apply below_alloc | apply pw_below_drewN | apply below_drew1 | refine below_set ?_ GE148.out | refine below_set ?_ GE149.out) | exact HB.out)⟩
          · rw [if_neg c10] at H
            have c10b0 : decide (a0_10 < 0) = false := decide_eq_false c10
            clear c10
            obtain ⟨ji18, hji18⟩ : ∃ j_ : Int, (mn (l1.length : Int) 62) = j_ := ⟨_, rfl⟩
            replace H : (some (Go.bits .and .i64 a0_10 (wrap64 ((wrap64 (2 ^ (ji18).toNat)) - 1)))) = some r := by first | (rw [hji18] at H; exact H) | (simp only [hji18] at H ⊢; exact H)
            (try rw [hji18] at A5)
            (try (have hji18h : ji18 ≤ 62 := by (rw [← hji18]; unfold mn; (repeat' split) <;> omega)))
            (try (have hji18g : ji18 ≤ 64 := by omega))
            (try (have hji18l : 0 ≤ ji18 := by (rw [← hji18]; unfold mn; (repeat' split) <;> omega)))
            (try (have hji18m : 0 ≤ ji18 := by omega))
            have hji18_ : (if 62 < (l1.length : Int) then 62 else (l1.length : Int)) = ji18 := hji18
            obtain rfl := Option.some.inj H
            go_enter Try.func19, Try.ntmps19
            go_wp2_with (first | ((with_reducible refine gate_dst (N := 4) rfl ?_); refine box_event ?hg (N := 4) ?hd (cs := #[.bool a0_0, .bool a0_1, .bool a0_2, .bool a0_3, .bool a0_4, .bool a0_5, .bool a0_6, .int .i64 a0_7, .bool a0_8, .bool a0_9, .int .i64 a0_10, .slice A0_11 l0_11.length c0_11]) (t := 43) ?hr ?_; (case hd => rfl); (case hg => rfl); (case hr => first | (go_simp; done) | (go_simp; rfl)); intro gb148 hg w19 hbox hb; have n0_ := Aside0.mk (below_step (by repeat (first | (with_reducible first | exact HB.out | apply below_alloc | apply pw_below_drewN | apply below_drew1) | exact HB.out)) hb); have n1_ := Aside0.mk (hbox); have n2_ := Aside0.mk ((by rw [hg]; exact (below_size (by repeat (first | (with_reducible first | exact HB.out | apply below_alloc | apply pw_below_drewN | apply below_drew1) | exact HB.out))) : w.heap.size ≤ gb148)); have n3_ := Aside0.mk ((by rw [hg]; exact (below_size (by repeat (first | (with_reducible first | exact HB.out | apply below_alloc | apply pw_below_drewN | apply below_drew1) | exact HB.out))) : w.heap.size ≤ gb148)); clear HB; have HB := n0_; have BK148 := n1_; have GW148 := n2_; have GE148 := n3_; clear n0_ n1_ n2_ n3_; clear hb hbox hg) | ((with_reducible refine gate_dst (N := 6) rfl ?_); refine box_event ?hg (N := 6) ?hd (cs := #[.int .i64 a2_0, .int .i64 a2_1]) (t := 46) ?hr ?_; (case hd => rfl); (case hg => rfl); (case hr => first | (go_simp; done) | (go_simp; rfl)); intro gb149 hg w20 hbox hb; have n0_ := Aside0.mk (blk_below (g := gb148) (o := .cells #[.bool a0_0, .bool a0_1, .bool a0_2, .bool a0_3, .bool a0_4, .bool a0_5, .bool a0_6, .int .i64 a0_7, .bool a0_8, .bool a0_9, .int .i64 a0_10, .slice A0_11 l0_11.length c0_11] 43 (0, 0)) (by (with_reducible repeat (first | refine blk_drewN ?_ _ | refine blk_drew ?_ | refine blk_alloc ?_ _)); exact BK148.out) hb); have n1_ := Aside0.mk (below_step (by repeat (first | (with_reducible first | exact HB.out | apply below_alloc | apply pw_below_drewN | apply below_drew1 | refine below_set ?_ GE148.out) | exact HB.out)) hb); have n2_ := Aside0.mk (hbox); have n3_ := Aside0.mk ((by rw [hg]; exact (below_size (by repeat (first | (with_reducible first | exact HB.out | apply below_alloc | apply pw_below_drewN | apply below_drew1 | refine below_set ?_ GE148.out) | exact HB.out))) : w.heap.size ≤ gb149)); have n4_ := Aside0.mk ((by rw [hg]; exact (below_size (by repeat (first | (with_reducible first | exact HB.out | apply below_alloc | apply pw_below_drewN | apply below_drew1 | refine below_set ?_ GE148.out) | exact HB.out))) : w.heap.size ≤ gb149)); have n5_ := Aside0.mk ((by rw [hg]; exact Nat.ne_of_lt (blk_lt (g := gb148) (o := .cells #[.bool a0_0, .bool a0_1, .bool a0_2, .bool a0_3, .bool a0_4, .bool a0_5, .bool a0_6, .int .i64 a0_7, .bool a0_8, .bool a0_9, .int .i64 a0_10, .slice A0_11 l0_11.length c0_11] 43 (0, 0)) (by (with_reducible repeat (first | refine blk_drewN ?_ _ | refine blk_drew ?_ | refine blk_alloc ?_ _)); exact BK148.out)) : gb148 ≠ gb149)); have n6_ := Aside0.mk ((by rw [hg]; exact Nat.ne_of_gt (blk_lt (g := gb148) (o := .cells #[.bool a0_0, .bool a0_1, .bool a0_2, .bool a0_3, .bool a0_4, .bool a0_5, .bool a0_6, .int .i64 a0_7, .bool a0_8, .bool a0_9, .int .i64 a0_10, .slice A0_11 l0_11.length c0_11] 43 (0, 0)) (by (with_reducible repeat (first | refine blk_drewN ?_ _ | refine blk_drew ?_ | refine blk_alloc ?_ _)); exact BK148.out)) : gb149 ≠ gb148)); clear BK148; clear HB; have BK148 := n0_; have HB := n1_; have BK149 := n2_; have GW149 := n3_; have GE149 := n4_; have NB148_149 := n5_; have NB149_148 := n6_; clear n0_ n1_ n2_ n3_ n4_ n5_ n6_; clear hb hbox hg; have hnb21 := NB148_149.out; have hnc21 := NB149_148.out; have hcz22_0 : w20.cell? ⟨gb148, 0, none⟩ = some (.bool a0_0) := (blk_cell BK148.out 0).trans rfl; have hcz22_1 : w20.cell? ⟨gb148, 1, none⟩ = some (.bool a0_1) := (blk_cell BK148.out 1).trans rfl; have hcz22_2 : w20.cell? ⟨gb148, 2, none⟩ = some (.bool a0_2) := (blk_cell BK148.out 2).trans rfl; have hcz22_3 : w20.cell? ⟨gb148, 3, none⟩ = some (.bool a0_3) := (blk_cell BK148.out 3).trans rfl; have hcz22_4 : w20.cell? ⟨gb148, 4, none⟩ = some (.bool a0_4) := (blk_cell BK148.out 4).trans rfl; have hcz22_5 : w20.cell? ⟨gb148, 5, none⟩ = some (.bool a0_5) := (blk_cell BK148.out 5).trans rfl; have hcz22_6 : w20.cell? ⟨gb148, 6, none⟩ = some (.bool a0_6) := (blk_cell BK148.out 6).trans rfl; have hcz22_7 : w20.cell? ⟨gb148, 7, none⟩ = some (.int .i64 a0_7) := (blk_cell BK148.out 7).trans rfl; have hcz22_8 : w20.cell? ⟨gb148, 8, none⟩ = some (.bool a0_8) := (blk_cell BK148.out 8).trans rfl; have hcz22_9 : w20.cell? ⟨gb148, 9, none⟩ = some (.bool a0_9) := (blk_cell BK148.out 9).trans rfl; have hcz22_10 : w20.cell? ⟨gb148, 10, none⟩ = some (.int .i64 a0_10) := (blk_cell BK148.out 10).trans rfl; have hcz22_11 : w20.cell? ⟨gb148, 11, none⟩ = some (.slice A0_11 l0_11.length c0_11) := (blk_cell BK148.out 11).trans rfl; have hfz22_0 := blk_frozen BK148.out 0; have hfz22_1 := blk_frozen BK148.out 1; have hfz22_2 := blk_frozen BK148.out 2; have hfz22_3 := blk_frozen BK148.out 3; have hfz22_4 := blk_frozen BK148.out 4; have hfz22_5 := blk_frozen BK148.out 5; have hfz22_6 := blk_frozen BK148.out 6; have hfz22_7 := blk_frozen BK148.out 7; have hfz22_8 := blk_frozen BK148.out 8; have hfz22_9 := blk_frozen BK148.out 9; have hfz22_10 := blk_frozen BK148.out 10; have hfz22_11 := blk_frozen BK148.out 11) | ((with_reducible refine gate_callee (f := 31) rfl ?_); refine goesL_ (some 12) rfl rfl Try.func31 (by kernel_rfl) rfl #[.agg #[.bool a0_0, .bool a0_1, .bool a0_2, .bool a0_3, .bool a0_4, .bool a0_5, .bool a0_6, .int .i64 a0_7, .bool a0_8, .bool a0_9, .int .i64 a0_10, .slice A0_11 l0_11.length c0_11], .slice A1 l1.length c1] rfl (by (try simp only [List.map_toArray, List.map_cons, List.map_nil]); first | done | rfl | (simp only [List.length_drop, List.length_take]; rfl)) ?_; (with_reducible refine (crossbuckref19_Good.calls k a0_0 a0_1 a0_2 a0_3 a0_4 a0_5 a0_6 a0_7 a0_8 a0_9 a0_10 _ _ l0_11 _ _ l1 true _ ?side1 ?side2 ?side3 ?side4 A5.out).mono ?_); (case side1 => repeat (first | exact (Kd.C_below HR0_11.out HB.out) | (with_reducible refine Kd.C_alloc ?_ _) | (with_reducible refine Kd.C_drewN ?_ _) | (with_reducible refine Kd.C_drew ?_))); (case side2 => exact HC0_11.out); (case side3 => repeat (first | exact (Kd.C_below HR1.out HB.out) | (with_reducible refine Kd.C_alloc ?_ _) | (with_reducible refine Kd.C_drewN ?_ _) | (with_reducible refine Kd.C_drew ?_))); (case side4 => exact HC1.out); rintro e w23 ⟨rfl, hb⟩; refine ⟨_, rfl, ?_⟩; have n0_ := Aside0.mk (blk_below (g := gb148) (o := .cells #[.bool a0_0, .bool a0_1, .bool a0_2, .bool a0_3, .bool a0_4, .bool a0_5, .bool a0_6, .int .i64 a0_7, .bool a0_8, .bool a0_9, .int .i64 a0_10, .slice A0_11 l0_11.length c0_11] 43 (0, 0)) (by (with_reducible repeat (first | refine blk_drewN ?_ _ | refine blk_drew ?_ | refine blk_alloc ?_ _)); exact BK148.out) hb); have n1_ := Aside0.mk (blk_below (g := gb149) (o := .cells #[.int .i64 a2_0, .int .i64 a2_1] 46 (0, 0)) (by (with_reducible repeat (first | refine blk_drewN ?_ _ | refine blk_drew ?_ | refine blk_alloc ?_ _)); exact BK149.out) hb); have n2_ := Aside0.mk (below_step (by repeat (first | (with_reducible first | exact HB.out | apply below_alloc | apply pw_below_drewN | apply below_drew1 | refine below_set ?_ GE148.out | refine below_set ?_ GE149.out) | exact HB.out)) hb); clear BK148; clear BK149; clear HB; have BK148 := n0_; have BK149 := n1_; have HB := n2_; clear n0_ n1_ n2_; (try clear hb); (try clear hb2); (try clear hk); (try clear hi); have hcz24_0 : w23.cell? ⟨gb149, 0, none⟩ = some (.int .i64 a2_0) := (blk_cell BK149.out 0).trans rfl; have hcz24_1 : w23.cell? ⟨gb149, 1, none⟩ = some (.int .i64 a2_1) := (blk_cell BK149.out 1).trans rfl; have hfz24_0 := blk_frozen BK149.out 0; have hfz24_1 := blk_frozen BK149.out 1; have hcz25_0 : w23.cell? ⟨gb148, 0, none⟩ = some (.bool a0_0) := (blk_cell BK148.out 0).trans rfl; have hcz25_1 : w23.cell? ⟨gb148, 1, none⟩ = some (.bool a0_1) := (blk_cell BK148.out 1).trans rfl; have hcz25_2 : w23.cell? ⟨gb148, 2, none⟩ = some (.bool a0_2) := (blk_cell BK148.out 2).trans rfl; have hcz25_3 : w23.cell? ⟨gb148, 3, none⟩ = some (.bool a0_3) := (blk_cell BK148.out 3).trans rfl; have hcz25_4 : w23.cell? ⟨gb148, 4, none⟩ = some (.bool a0_4) := (blk_cell BK148.out 4).trans rfl; have hcz25_5 : w23.cell? ⟨gb148, 5, none⟩ = some (.bool a0_5) := (blk_cell BK148.out 5).trans rfl; have hcz25_6 : w23.cell? ⟨gb148, 6, none⟩ = some (.bool a0_6) := (blk_cell BK148.out 6).trans rfl; have hcz25_7 : w23.cell? ⟨gb148, 7, none⟩ = some (.int .i64 a0_7) := (blk_cell BK148.out 7).trans rfl; have hcz25_8 : w23.cell? ⟨gb148, 8, none⟩ = some (.bool a0_8) := (blk_cell BK148.out 8).trans rfl; have hcz25_9 : w23.cell? ⟨gb148, 9, none⟩ = some (.bool a0_9) := (blk_cell BK148.out 9).trans rfl; have hcz25_10 : w23.cell? ⟨gb148, 10, none⟩ = some (.int .i64 a0_10) := (blk_cell BK148.out 10).trans rfl; have hcz25_11 : w23.cell? ⟨gb148, 11, none⟩ = some (.slice A0_11 l0_11.length c0_11) := (blk_cell BK148.out 11).trans rfl; have hfz25_0 := blk_frozen BK148.out 0; have hfz25_1 := blk_frozen BK148.out 1; have hfz25_2 := blk_frozen BK148.out 2; have hfz25_3 := blk_frozen BK148.out 3; have hfz25_4 := blk_frozen BK148.out 4; have hfz25_5 := blk_frozen BK148.out 5; have hfz25_6 := blk_frozen BK148.out 6; have hfz25_7 := blk_frozen BK148.out 7; have hfz25_8 := blk_frozen BK148.out 8; have hfz25_9 := blk_frozen BK148.out 9; have hfz25_10 := blk_frozen BK148.out 10; have hfz25_11 := blk_frozen BK148.out 11))
            go_ret
            exact ⟨by first | rfl | (simp [errW_none, errW_some] <;> rfl) | (simp only [← hji18]; first | rfl | (simp [errW_none, errW_some] <;> rfl)) | (simp [*, errW_none, errW_some] <;> rfl), by repeat (first | (with_reducible first | exact HB.out | apply below_alloc | apply pw_below_drewN | apply below_drew1 | refine below_set ?_ GE148.out | refine below_set ?_ GE149.out) | exact HB.out)⟩
        · replace c9 := Bool.eq_false_iff.mpr c9
          subst c9
          have H1 : (some 0) = some r := by rw [if_neg (show ¬ (false = true) by decide)] at H; exact H
          clear H
          have H := H1
          clear H1
          obtain rfl := Option.some.inj H
          go_enter Try.func19, Try.ntmps19
          go_wp2_with (first | ((with_reducible refine gate_dst (N := 4) rfl ?_); refine box_event ?hg (N := 4) ?hd (cs := #[.bool a0_0, .bool a0_1, .bool a0_2, .bool a0_3, .bool a0_4, .bool a0_5, .bool a0_6, .int .i64 a0_7, .bool a0_8, .bool a0_9, .int .i64 a0_10, .slice A0_11 l0_11.length c0_11]) (t := 43) ?hr ?_; (case hd => rfl); (case hg => rfl); (case hr => first | (go_simp; done) | (go_simp; rfl)); intro gb148 hg w26 hbox hb; have n0_ := Aside0.mk (below_step (by repeat (first | (with_reducible first | exact HB.out | apply below_alloc | apply pw_below_drewN | apply below_drew1) | exact HB.out)) hb); have n1_ := Aside0.mk (hbox); have n2_ := Aside0.mk ((by rw [hg]; exact (below_size (by repeat (first | (with_reducible first | exact HB.out | apply below_alloc | apply pw_below_drewN | apply below_drew1) | exact HB.out))) : w.heap.size ≤ gb148)); have n3_ := Aside0.mk ((by rw [hg]; exact (below_size (by repeat (first | (with_reducible first | exact HB.out | apply below_alloc | apply pw_below_drewN | apply below_drew1) | exact HB.out))) : w.heap.size ≤ gb148)); clear HB; have HB := n0_; have BK148 := n1_; have GW148 := n2_; have GE148 := n3_; clear n0_ n1_ n2_ n3_; clear hb hbox hg) | ((with_reducible refine gate_dst (N := 6) rfl ?_); refine box_event ?hg (N := 6) ?hd (cs := #[.int .i64 a2_0, .int .i64 a2_1]) (t := 46) ?hr ?_; (case hd => rfl); (case hg => rfl); (case hr => first | (go_simp; done) | (go_simp; rfl)); intro gb149 hg w27 hbox hb; have n0_ := Aside0.mk (blk_below (g := gb148) (o := .cells #[.bool a0_0, .bool a0_1, .bool a0_2, .bool a0_3, .bool a0_4, .bool a0_5, .bool a0_6, .int .i64 a0_7, .bool a0_8, .bool a0_9, .int .i64 a0_10, .slice A0_11 l0_11.length c0_11] 43 (0, 0)) (by (with_reducible repeat (first | refine blk_drewN ?_ _ | refine blk_drew ?_ | refine blk_alloc ?_ _)); exact BK148.out) hb); have n1_ := Aside0.mk (below_step (by repeat (first | (with_reducible first | exact HB.out | apply below_alloc | apply pw_below_drewN | apply below_drew1 | refine below_set ?_ GE148.out) | exact HB.out)) hb); have n2_ := Aside0.mk (hbox); have n3_ := Aside0.mk ((by rw [hg]; exact (below_size (by repeat (first | (with_reducible first | exact HB.out | apply below_alloc | apply pw_below_drewN | apply below_drew1 | refine below_set ?_ GE148.out) | exact HB.out))) : w.heap.size ≤ gb149)); have n4_ := Aside0.mk ((by rw [hg]; exact (below_size (by repeat (first | (with_reducible first | exact HB.out | apply below_alloc | apply pw_below_drewN | apply below_drew1 | refine below_set ?_ GE148.out) | exact HB.out))) : w.heap.size ≤ gb149)); have n5_ := Aside0.mk ((by rw [hg]; exact Nat.ne_of_lt (blk_lt (g := gb148) (o := .cells #[.bool a0_0, .bool a0_1, .bool a0_2, .bool a0_3, .bool a0_4, .bool a0_5, .bool a0_6, .int .i64 a0_7, .bool a0_8, .bool a0_9, .int .i64 a0_10, .slice A0_11 l0_11.length c0_11] 43 (0, 0)) (by (with_reducible repeat (first | refine blk_drewN ?_ _ | refine blk_drew ?_ | refine blk_alloc ?_ _)); exact BK148.out)) : gb148 ≠ gb149)); have n6_ := Aside0.mk ((by rw [hg]; exact Nat.ne_of_gt (blk_lt (g := gb148) (o := .cells #[.bool a0_0, .bool a0_1, .bool a0_2, .bool a0_3, .bool a0_4, .bool a0_5, .bool a0_6, .int .i64 a0_7, .bool a0_8, .bool a0_9, .int .i64 a0_10, .slice A0_11 l0_11.length c0_11] 43 (0, 0)) (by (with_reducible repeat (first | refine blk_drewN ?_ _ | refine blk_drew ?_ | refine blk_alloc ?_ _)); exact BK148.out)) : gb149 ≠ gb148)); clear BK148; clear HB; have BK148 := n0_; have HB := n1_; have BK149 := n2_; have GW149 := n3_; have GE149 := n4_; have NB148_149 := n5_; have NB149_148 := n6_; clear n0_ n1_ n2_ n3_ n4_ n5_ n6_; clear hb hbox hg; have hnb28 := NB148_149.out; have hnc28 := NB149_148.out; have hcz29_0 : w27.cell? ⟨gb148, 0, none⟩ = some (.bool a0_0) := (blk_cell BK148.out 0).trans rfl; have hcz29_1 : w27.cell? ⟨gb148, 1, none⟩ = some (.bool a0_1) := (blk_cell BK148.out 1).trans rfl; have hcz29_2 : w27.cell? ⟨gb148, 2, none⟩ = some (.bool a0_2) := (blk_cell BK148.out 2).trans rfl; have hcz29_3 : w27.cell? ⟨gb148, 3, none⟩ = some (.bool a0_3) := (blk_cell BK148.out 3).trans rfl; have hcz29_4 : w27.cell? ⟨gb148, 4, none⟩ = some (.bool a0_4) := (blk_cell BK148.out 4).trans rfl; have hcz29_5 : w27.cell? ⟨gb148, 5, none⟩ = some (.bool a0_5) := (blk_cell BK148.out 5).trans rfl; have hcz29_6 : w27.cell? ⟨gb148, 6, none⟩ = some (.bool a0_6) := (blk_cell BK148.out 6).trans rfl; have hcz29_7 : w27.cell? ⟨gb148, 7, none⟩ = some (.int .i64 a0_7) := (blk_cell BK148.out 7).trans rfl; have hcz29_8 : w27.cell? ⟨gb148, 8, none⟩ = some (.bool a0_8) := (blk_cell BK148.out 8).trans rfl; have hcz29_9 : w27.cell? ⟨gb148, 9, none⟩ = some (.bool a0_9) := (blk_cell BK148.out 9).trans rfl; have hcz29_10 : w27.cell? ⟨gb148, 10, none⟩ = some (.int .i64 a0_10) := (blk_cell BK148.out 10).trans rfl; have hcz29_11 : w27.cell? ⟨gb148, 11, none⟩ = some (.slice A0_11 l0_11.length c0_11) := (blk_cell BK148.out 11).trans rfl; have hfz29_0 := blk_frozen BK148.out 0; have hfz29_1 := blk_frozen BK148.out 1; have hfz29_2 := blk_frozen BK148.out 2; have hfz29_3 := blk_frozen BK148.out 3; have hfz29_4 := blk_frozen BK148.out 4; have hfz29_5 := blk_frozen BK148.out 5; have hfz29_6 := blk_frozen BK148.out 6; have hfz29_7 := blk_frozen BK148.out 7; have hfz29_8 := blk_frozen BK148.out 8; have hfz29_9 := blk_frozen BK148.out 9; have hfz29_10 := blk_frozen BK148.out 10; have hfz29_11 := blk_frozen BK148.out 11) | ((with_reducible refine gate_callee (f := 31) rfl ?_); refine goesL_ (some 12) rfl rfl Try.func31 (by kernel_rfl) rfl #[.agg #[.bool a0_0, .bool a0_1, .bool a0_2, .bool a0_3, .bool a0_4, .bool a0_5, .bool a0_6, .int .i64 a0_7, .bool a0_8, .bool a0_9, .int .i64 a0_10, .slice A0_11 l0_11.length c0_11], .slice A1 l1.length c1] rfl (by (try simp only [List.map_toArray, List.map_cons, List.map_nil]); first | done | rfl | (simp only [List.length_drop, List.length_take]; rfl)) ?_; (with_reducible refine (crossbuckref19_Good.calls k a0_0 a0_1 a0_2 a0_3 a0_4 a0_5 a0_6 a0_7 a0_8 a0_9 a0_10 _ _ l0_11 _ _ l1 false _ ?side1 ?side2 ?side3 ?side4 A5.out).mono ?_); (case side1 => repeat (first | exact (Kd.C_below HR0_11.out HB.out) | (with_reducible refine Kd.C_alloc ?_ _) | (with_reducible refine Kd.C_drewN ?_ _) | (with_reducible refine Kd.C_drew ?_))); (case side2 => exact HC0_11.out); (case side3 => repeat (first | exact (Kd.C_below HR1.out HB.out) | (with_reducible refine Kd.C_alloc ?_ _) | (with_reducible refine Kd.C_drewN ?_ _) | (with_reducible refine Kd.C_drew ?_))); (case side4 => exact HC1.out); rintro e w30 ⟨rfl, hb⟩; refine ⟨_, rfl, ?_⟩; have n0_ := Aside0.mk (blk_below (g := gb148) (o := .cells #[.bool a0_0, .bool a0_1, .bool a0_2, .bool a0_3, .bool a0_4, .bool a0_5, .bool a0_6, .int .i64 a0_7, .bool a0_8, .bool a0_9, .int .i64 a0_10, .slice A0_11 l0_11.length c0_11] 43 (0, 0)) (by (with_reducible repeat (first | refine blk_drewN ?_ _ | refine blk_drew ?_ | refine blk_alloc ?_ _)); exact BK148.out) hb); have n1_ := Aside0.mk (blk_below (g := gb149) (o := .cells #[.int .i64 a2_0, .int .i64 a2_1] 46 (0, 0)) (by (with_reducible repeat (first | refine blk_drewN ?_ _ | refine blk_drew ?_ | refine blk_alloc ?_ _)); exact BK149.out) hb); have n2_ := Aside0.mk (below_step (by repeat (first | (with_reducible first | exact HB.out | apply below_alloc | apply pw_below_drewN | apply below_drew1 | refine below_set ?_ GE148.out | refine below_set ?_ GE149.out) | exact HB.out)) hb); clear BK148; clear BK149; clear HB; have BK148 := n0_; have BK149 := n1_; have HB := n2_; clear n0_ n1_ n2_; (try clear hb); (try clear hb2); (try clear hk); (try clear hi); have hcz31_0 : w30.cell? ⟨gb149, 0, none⟩ = some (.int .i64 a2_0) := (blk_cell BK149.out 0).trans rfl; have hcz31_1 : w30.cell? ⟨gb149, 1, none⟩ = some (.int .i64 a2_1) := (blk_cell BK149.out 1).trans rfl; have hfz31_0 := blk_frozen BK149.out 0; have hfz31_1 := blk_frozen BK149.out 1; have hcz32_0 : w30.cell? ⟨gb148, 0, none⟩ = some (.bool a0_0) := (blk_cell BK148.out 0).trans rfl; have hcz32_1 : w30.cell? ⟨gb148, 1, none⟩ = some (.bool a0_1) := (blk_cell BK148.out 1).trans rfl; have hcz32_2 : w30.cell? ⟨gb148, 2, none⟩ = some (.bool a0_2) := (blk_cell BK148.out 2).trans rfl; have hcz32_3 : w30.cell? ⟨gb148, 3, none⟩ = some (.bool a0_3) := (blk_cell BK148.out 3).trans rfl; have hcz32_4 : w30.cell? ⟨gb148, 4, none⟩ = some (.bool a0_4) := (blk_cell BK148.out 4).trans rfl; have hcz32_5 : w30.cell? ⟨gb148, 5, none⟩ = some (.bool a0_5) := (blk_cell BK148.out 5).trans rfl; have hcz32_6 : w30.cell? ⟨gb148, 6, none⟩ = some (.bool a0_6) := (blk_cell BK148.out 6).trans rfl; have hcz32_7 : w30.cell? ⟨gb148, 7, none⟩ = some (.int .i64 a0_7) := (blk_cell BK148.out 7).trans rfl; have hcz32_8 : w30.cell? ⟨gb148, 8, none⟩ = some (.bool a0_8) := (blk_cell BK148.out 8).trans rfl; have hcz32_9 : w30.cell? ⟨gb148, 9, none⟩ = some (.bool a0_9) := (blk_cell BK148.out 9).trans rfl; have hcz32_10 : w30.cell? ⟨gb148, 10, none⟩ = some (.int .i64 a0_10) := (blk_cell BK148.out 10).trans rfl; have hcz32_11 : w30.cell? ⟨gb148, 11, none⟩ = some (.slice A0_11 l0_11.length c0_11) := (blk_cell BK148.out 11).trans rfl; have hfz32_0 := blk_frozen BK148.out 0; have hfz32_1 := blk_frozen BK148.out 1; have hfz32_2 := blk_frozen BK148.out 2; have hfz32_3 := blk_frozen BK148.out 3; have hfz32_4 := blk_frozen BK148.out 4; have hfz32_5 := blk_frozen BK148.out 5; have hfz32_6 := blk_frozen BK148.out 6; have hfz32_7 := blk_frozen BK148.out 7; have hfz32_8 := blk_frozen BK148.out 8; have hfz32_9 := blk_frozen BK148.out 9; have hfz32_10 := blk_frozen BK148.out 10; have hfz32_11 := blk_frozen BK148.out 11))
          go_ret
          exact ⟨by first | rfl | (simp [errW_none, errW_some] <;> rfl) | (simp [*, errW_none, errW_some] <;> rfl), by repeat (first | (with_reducible first | exact HB.out | apply below_alloc | apply pw_below_drewN | apply below_drew1 | refine below_set ?_ GE148.out | refine below_set ?_ GE149.out) | exact HB.out)⟩
      · rw [if_neg c8] at H
        have c8b0 : (a0_7 == 0) = false := beq_eq_false_iff_ne.mpr c8
        have c8b1 : (a0_7 != 0) = true := bne_iff_ne.mpr c8
        obtain rfl := Option.some.inj H
        go_enter Try.func19, Try.ntmps19
        go_wp2_with (first | ((with_reducible refine gate_dst (N := 4) rfl ?_); refine box_event ?hg (N := 4) ?hd (cs := #[.bool a0_0, .bool a0_1, .bool a0_2, .bool a0_3, .bool a0_4, .bool a0_5, .bool a0_6, .int .i64 a0_7, .bool a0_8, .bool a0_9, .int .i64 a0_10, .slice A0_11 l0_11.length c0_11]) (t := 43) ?hr ?_; (case hd => rfl); (case hg => rfl); (case hr => first | (go_simp; done) | (go_simp; rfl)); intro gb148 hg w33 hbox hb; have n0_ := Aside0.mk (below_step (by repeat (first | (with_reducible first | exact HB.out | apply below_alloc | apply pw_below_drewN | apply below_drew1) | exact HB.out)) hb); have n1_ := Aside0.mk (hbox); have n2_ := Aside0.mk ((by rw [hg]; exact (below_size (by repeat (first | (with_reducible first | exact HB.out | apply below_alloc | apply pw_below_drewN | apply below_drew1) | exact HB.out))) : w.heap.size ≤ gb148)); have n3_ := Aside0.mk ((by rw [hg]; exact (below_size (by repeat (first | (with_reducible first | exact HB.out | apply below_alloc | apply pw_below_drewN | apply below_drew1) | exact HB.out))) : w.heap.size ≤ gb148)); clear HB; have HB := n0_; have BK148 := n1_; have GW148 := n2_; have GE148 := n3_; clear n0_ n1_ n2_ n3_; clear hb hbox hg) | ((with_reducible refine gate_dst (N := 6) rfl ?_); refine box_event ?hg (N := 6) ?hd (cs := #[.int .i64 a2_0, .int .i64 a2_1]) (t := 46) ?hr ?_; (case hd => rfl); (case hg => rfl); (case hr => first | (go_simp; done) | (go_simp; rfl)); intro gb149 hg w34 hbox hb; have n0_ := Aside0.mk (blk_below (g := gb148) (o := .cells #[.bool a0_0, .bool a0_1, .bool a0_2, .bool a0_3, .bool a0_4, .bool a0_5, .bool a0_6, .int .i64 a0_7, .bool a0_8, .bool a0_9, .int .i64 a0_10, .slice A0_11 l0_11.length c0_11] 43 (0, 0)) (by (with_reducible repeat (first | refine blk_drewN ?_ _ | refine blk_drew ?_ | refine blk_alloc ?_ _)); exact BK148.out) hb); have n1_ := Aside0.mk (below_step (by repeat (first | (with_reducible first | exact HB.out | apply below_alloc | apply pw_below_drewN | apply below_drew1 | refine below_set ?_ GE148.out) | exact HB.out)) hb); have n2_ := Aside0.mk (hbox); have n3_ := Aside0.mk ((by rw [hg]; exact (below_size (by repeat (first | (with_reducible first | exact HB.out | apply below_alloc | apply pw_below_drewN | apply below_drew1 | refine below_set ?_ GE148.out) | exact HB.out))) : w.heap.size ≤ gb149)); have n4_ := Aside0.mk ((by rw [hg]; exact (below_size (by repeat (first | (with_reducible first | exact HB.out | apply below_alloc | apply pw_below_drewN | apply below_drew1 | refine below_set ?_ GE148.out) | exact HB.out))) : w.heap.size ≤ gb149)); have n5_ := Aside0.mk ((by rw [hg]; exact Nat.ne_of_lt (blk_lt (g := gb148) (o := .cells #[.bool a0_0, .bool a0_1, .bool a0_2, .bool a0_3, .bool a0_4, .bool a0_5, .bool a0_6, .int .i64 a0_7, .bool a0_8, .bool a0_9, .int .i64 a0_10, .slice A0_11 l0_11.length c0_11] 43 (0, 0)) (by (with_reducible repeat (first | refine blk_drewN ?_ _ | refine blk_drew ?_ | refine blk_alloc ?_ _)); exact BK148.out)) : gb148 ≠ gb149)); have n6_ := Aside0.mk ((by rw [hg]; exact Nat.ne_of_gt (blk_lt (g := gb148) (o := .cells #[.bool a0_0, .bool a0_1, .bool a0_2, .bool a0_3, .bool a0_4, .bool a0_5, .bool a0_6, .int .i64 a0_7, .bool a0_8, .bool a0_9, .int .i64 a0_10, .slice A0_11 l0_11.length c0_11] 43 (0, 0)) (by (with_reducible repeat (first | refine blk_drewN ?_ _ | refine blk_drew ?_ | refine blk_alloc ?_ _)); exact BK148.out)) : gb149 ≠ gb148)); clear BK148; clear HB; have BK148 := n0_; have HB := n1_; have BK149 := n2_; have GW149 := n3_; have GE149 := n4_; have NB148_149 := n5_; have NB149_148 := n6_; clear n0_ n1_ n2_ n3_ n4_ n5_ n6_; clear hb hbox hg; have hnb35 := NB148_149.out; have hnc35 := NB149_148.out; have hcz36_0 : w34.cell? ⟨gb148, 0, none⟩ = some (.bool a0_0) := (blk_cell BK148.out 0).trans rfl; have hcz36_1 : w34.cell? ⟨gb148, 1, none⟩ = some (.bool a0_1) := (blk_cell BK148.out 1).trans rfl; have hcz36_2 : w34.cell? ⟨gb148, 2, none⟩ = some (.bool a0_2) := (blk_cell BK148.out 2).trans rfl; have hcz36_3 : w34.cell? ⟨gb148, 3, none⟩ = some (.bool a0_3) := (blk_cell BK148.out 3).trans rfl; have hcz36_4 : w34.cell? ⟨gb148, 4, none⟩ = some (.bool a0_4) := (blk_cell BK148.out 4).trans rfl; have hcz36_5 : w34.cell? ⟨gb148, 5, none⟩ = some (.bool a0_5) := (blk_cell BK148.out 5).trans rfl; have hcz36_6 : w34.cell? ⟨gb148, 6, none⟩ = some (.bool a0_6) := (blk_cell BK148.out 6).trans rfl; have hcz36_7 : w34.cell? ⟨gb148, 7, none⟩ = some (.int .i64 a0_7) := (blk_cell BK148.out 7).trans rfl; have hcz36_8 : w34.cell? ⟨gb148, 8, none⟩ = some (.bool a0_8) := (blk_cell BK148.out 8).trans rfl; have hcz36_9 : w34.cell? ⟨gb148, 9, none⟩ = some (.bool a0_9) := (blk_cell BK148.out 9).trans rfl; have hcz36_10 : w34.cell? ⟨gb148, 10, none⟩ = some (.int .i64 a0_10) := (blk_cell BK148.out 10).trans rfl; have hcz36_11 : w34.cell? ⟨gb148, 11, none⟩ = some (.slice A0_11 l0_11.length c0_11) := (blk_cell BK148.out 11).trans rfl; have hfz36_0 := blk_frozen BK148.out 0; have hfz36_1 := blk_frozen BK148.out 1; have hfz36_2 := blk_frozen BK148.out 2; have hfz36_3 := blk_frozen BK148.out 3; have hfz36_4 := blk_frozen BK148.out 4; have hfz36_5 := blk_frozen BK148.out 5; have hfz36_6 := blk_frozen BK148.out 6; have hfz36_7 := blk_frozen BK148.out 7; have hfz36_8 := blk_frozen BK148.out 8; have hfz36_9 := blk_frozen BK148.out 9; have hfz36_10 := blk_frozen BK148.out 10; have hfz36_11 := blk_frozen BK148.out 11) | ((with_reducible refine gate_callee (f := 31) rfl ?_); refine goesL_ (some 12) rfl rfl Try.func31 (by kernel_rfl) rfl #[.agg #[.bool a0_0, .bool a0_1, .bool a0_2, .bool a0_3, .bool a0_4, .bool a0_5, .bool a0_6, .int .i64 a0_7, .bool a0_8, .bool a0_9, .int .i64 a0_10, .slice A0_11 l0_11.length c0_11], .slice A1 l1.length c1] rfl (by (try simp only [List.map_toArray, List.map_cons, List.map_nil]); first | done | rfl | (simp only [List.length_drop, List.length_take]; rfl)) ?_; (with_reducible refine (crossbuckref19_Good.calls k a0_0 a0_1 a0_2 a0_3 a0_4 a0_5 a0_6 a0_7 a0_8 a0_9 a0_10 _ _ l0_11 _ _ l1 t150 _ ?side1 ?side2 ?side3 ?side4 A5.out).mono ?_); (case side1 => repeat (first | exact (Kd.C_below HR0_11.out HB.out) | (with_reducible refine Kd.C_alloc ?_ _) | (with_reducible refine Kd.C_drewN ?_ _) | (with_reducible refine Kd.C_drew ?_))); (case side2 => exact HC0_11.out); (case side3 => repeat (first | exact (Kd.C_below HR1.out HB.out) | (with_reducible refine Kd.C_alloc ?_ _) | (with_reducible refine Kd.C_drewN ?_ _) | (with_reducible refine Kd.C_drew ?_))); (case side4 => exact HC1.out); rintro e w37 ⟨rfl, hb⟩; refine ⟨_, rfl, ?_⟩; have n0_ := Aside0.mk (blk_below (g := gb148) (o := .cells #[.bool a0_0, .bool a0_1, .bool a0_2, .bool a0_3, .bool a0_4, .bool a0_5, .bool a0_6, .int .i64 a0_7, .bool a0_8, .bool a0_9, .int .i64 a0_10, .slice A0_11 l0_11.length c0_11] 43 (0, 0)) (by (with_reducible repeat (first | refine blk_drewN ?_ _ | refine blk_drew ?_ | refine blk_alloc ?_ _)); exact BK148.out) hb); have n1_ := Aside0.mk (blk_below (g := gb149) (o := .cells #[.int .i64 a2_0, .int .i64 a2_1] 46 (0, 0)) (by (with_reducible repeat (first | refine blk_drewN ?_ _ | refine blk_drew ?_ | refine blk_alloc ?_ _)); exact BK149.out) hb); have n2_ := Aside0.mk (below_step (by repeat (first | (with_reducible first | exact HB.out | apply below_alloc | apply pw_below_drewN | apply below_drew1 | refine below_set ?_ GE148.out | refine below_set ?_ GE149.out) | exact HB.out)) hb); clear BK148; clear BK149; clear HB; have BK148 := n0_; have BK149 := n1_; have HB := n2_; clear n0_ n1_ n2_; (try clear hb); (try clear hb2); (try clear hk); (try clear hi); have hcz38_0 : w37.cell? ⟨gb149, 0, none⟩ = some (.int .i64 a2_0) := (blk_cell BK149.out 0).trans rfl; have hcz38_1 : w37.cell? ⟨gb149, 1, none⟩ = some (.int .i64 a2_1) := (blk_cell BK149.out 1).trans rfl; have hfz38_0 := blk_frozen BK149.out 0; have hfz38_1 := blk_frozen BK149.out 1; have hcz39_0 : w37.cell? ⟨gb148, 0, none⟩ = some (.bool a0_0) := (blk_cell BK148.out 0).trans rfl; have hcz39_1 : w37.cell? ⟨gb148, 1, none⟩ = some (.bool a0_1) := (blk_cell BK148.out 1).trans rfl; have hcz39_2 : w37.cell? ⟨gb148, 2, none⟩ = some (.bool a0_2) := (blk_cell BK148.out 2).trans rfl; have hcz39_3 : w37.cell? ⟨gb148, 3, none⟩ = some (.bool a0_3) := (blk_cell BK148.out 3).trans rfl; have hcz39_4 : w37.cell? ⟨gb148, 4, none⟩ = some (.bool a0_4) := (blk_cell BK148.out 4).trans rfl; have hcz39_5 : w37.cell? ⟨gb148, 5, none⟩ = some (.bool a0_5) := (blk_cell BK148.out 5).trans rfl; have hcz39_6 : w37.cell? ⟨gb148, 6, none⟩ = some (.bool a0_6) := (blk_cell BK148.out 6).trans rfl; have hcz39_7 : w37.cell? ⟨gb148, 7, none⟩ = some (.int .i64 a0_7) := (blk_cell BK148.out 7).trans rfl; have hcz39_8 : w37.cell? ⟨gb148, 8, none⟩ = some (.bool a0_8) := (blk_cell BK148.out 8).trans rfl; have hcz39_9 : w37.cell? ⟨gb148, 9, none⟩ = some (.bool a0_9) := (blk_cell BK148.out 9).trans rfl; have hcz39_10 : w37.cell? ⟨gb148, 10, none⟩ = some (.int .i64 a0_10) := (blk_cell BK148.out 10).trans rfl; have hcz39_11 : w37.cell? ⟨gb148, 11, none⟩ = some (.slice A0_11 l0_11.length c0_11) := (blk_cell BK148.out 11).trans rfl; have hfz39_0 := blk_frozen BK148.out 0; have hfz39_1 := blk_frozen BK148.out 1; have hfz39_2 := blk_frozen BK148.out 2; have hfz39_3 := blk_frozen BK148.out 3; have hfz39_4 := blk_frozen BK148.out 4; have hfz39_5 := blk_frozen BK148.out 5; have hfz39_6 := blk_frozen BK148.out 6; have hfz39_7 := blk_frozen BK148.out 7; have hfz39_8 := blk_frozen BK148.out 8; have hfz39_9 := blk_frozen BK148.out 9; have hfz39_10 := blk_frozen BK148.out 10; have hfz39_11 := blk_frozen BK148.out 11))
        go_ret
        exact ⟨by first | rfl | (simp [errW_none, errW_some] <;> rfl) | (simp [*, errW_none, errW_some] <;> rfl), by repeat (first | (with_reducible first | exact HB.out | apply below_alloc | apply pw_below_drewN | apply below_drew1 | refine below_set ?_ GE148.out | refine below_set ?_ GE149.out) | exact HB.out)⟩
    · replace c7 := Bool.eq_false_iff.mpr c7
      subst c7
      have H1 : (some 0) = some r := by rw [if_neg (show ¬ (false = true) by decide)] at H; exact H
      clear H
      have H := H1
      clear H1
      obtain rfl := Option.some.inj H
      go_enter Try.func19, Try.ntmps19
      go_wp2_with (first | ((with_reducible refine gate_dst (N := 4) rfl ?_); refine box_event ?hg (N := 4) ?hd (cs := #[.bool a0_0, .bool a0_1, .bool a0_2, .bool a0_3, .bool a0_4, .bool a0_5, .bool a0_6, .int .i64 a0_7, .bool a0_8, .bool a0_9, .int .i64 a0_10, .slice A0_11 l0_11.length c0_11]) (t := 43) ?hr ?_; (case hd => rfl); (case hg => rfl); (case hr => first | (go_simp; done) | (go_simp; rfl)); intro gb148 hg w40 hbox hb; have n0_ := Aside0.mk (below_step (by repeat (first | (with_reducible first | exact HB.out | apply below_alloc | apply pw_below_drewN | apply below_drew1) | exact HB.out)) hb); have n1_ := Aside0.mk (hbox); have n2_ := Aside0.mk ((by rw [hg]; exact (below_size (by repeat (first | (with_reducible first | exact HB.out | apply below_alloc | apply pw_below_drewN | apply below_drew1) | exact HB.out))) : w.heap.size ≤ gb148)); have n3_ := Aside0.mk ((by rw [hg]; exact (below_size (by repeat (first | (with_reducible first | exact HB.out | apply below_alloc | apply pw_below_drewN | apply below_drew1) | exact HB.out))) : w.heap.size ≤ gb148)); clear HB; have HB := n0_; have BK148 := n1_; have GW148 := n2_; have GE148 := n3_; clear n0_ n1_ n2_ n3_; clear hb hbox hg) | ((with_reducible refine gate_dst (N := 6) rfl ?_); refine box_event ?hg (N := 6) ?hd (cs := #[.int .i64 a2_0, .int .i64 a2_1]) (t := 46) ?hr ?_; (case hd => rfl); (case hg => rfl); (case hr => first | (go_simp; done) | (go_simp; rfl)); intro gb149 hg w41 hbox hb; have n0_ := Aside0.mk (blk_below (g := gb148) (o := .cells #[.bool a0_0, .bool a0_1, .bool a0_2, .bool a0_3, .bool a0_4, .bool a0_5, .bool a0_6, .int .i64 a0_7, .bool a0_8, .bool a0_9, .int .i64 a0_10, .slice A0_11 l0_11.length c0_11] 43 (0, 0)) (by (with_reducible repeat (first | refine blk_drewN ?_ _ | refine blk_drew ?_ | refine blk_alloc ?_ _)); exact BK148.out) hb); have n1_ := Aside0.mk (below_step (by repeat (first | (with_reducible first | exact HB.out | apply below_alloc | apply pw_below_drewN | apply below_drew1 | refine below_set ?_ GE148.out) | exact HB.out)) hb); have n2_ := Aside0.mk (hbox); have n3_ := Aside0.mk ((by rw [hg]; exact (below_size (by repeat (first | (with_reducible first | exact HB.out | apply below_alloc | apply pw_below_drewN | apply below_drew1 | refine below_set ?_ GE148.out) | exact HB.out))) : w.heap.size ≤ gb149)); have n4_ := Aside0.mk ((by rw [hg]; exact (below_size (by repeat (first | (with_reducible first | exact HB.out | apply below_alloc | apply pw_below_drewN | apply below_drew1 | refine below_set ?_ GE148.out) | exact HB.out))) : w.heap.size ≤ gb149)); have n5_ := Aside0.mk ((by rw [hg]; exact Nat.ne_of_lt (blk_lt (g := gb148) (o := .cells #[.bool a0_0, .bool a0_1, .bool a0_2, .bool a0_3, .bool a0_4, .bool a0_5, .bool a0_6, .int .i64 a0_7, .bool a0_8, .bool a0_9, .int .i64 a0_10, .slice A0_11 l0_11.length c0_11] 43 (0, 0)) (by (with_reducible repeat (first | refine blk_drewN ?_ _ | refine blk_drew ?_ | refine blk_alloc ?_ _)); exact BK148.out)) : gb148 ≠ gb149)); have n6_ := Aside0.mk ((by rw [hg]; exact Nat.ne_of_gt (blk_lt (g := gb148) (o := .cells #[.bool a0_0, .bool a0_1, .bool a0_2, .bool a0_3, .bool a0_4, .bool a0_5, .bool a0_6, .int .i64 a0_7, .bool a0_8, .bool a0_9, .int .i64 a0_10, .slice A0_11 l0_11.length c0_11] 43 (0, 0)) (by (with_reducible repeat (first | refine blk_drewN ?_ _ | refine blk_drew ?_ | refine blk_alloc ?_ _)); exact BK148.out)) : gb149 ≠ gb148)); clear BK148; clear HB; have BK148 := n0_; have HB := n1_; have BK149 := n2_; have GW149 := n3_; have GE149 := n4_; have NB148_149 := n5_; have NB149_148 := n6_; clear n0_ n1_ n2_ n3_ n4_ n5_ n6_; clear hb hbox hg; have hnb42 := NB148_149.out; have hnc42 := NB149_148.out; have hcz43_0 : w41.cell? ⟨gb148, 0, none⟩ = some (.bool a0_0) := (blk_cell BK148.out 0).trans rfl; have hcz43_1 : w41.cell? ⟨gb148, 1, none⟩ = some (.bool a0_1) := (blk_cell BK148.out 1).trans rfl; have hcz43_2 : w41.cell? ⟨gb148, 2, none⟩ = some (.bool a0_2) := (blk_cell BK148.out 2).trans rfl; have hcz43_3 : w41.cell? ⟨gb148, 3, none⟩ = some (.bool a0_3) := (blk_cell BK148.out 3).trans rfl; have hcz43_4 : w41.cell? ⟨gb148, 4, none⟩ = some (.bool a0_4) := (blk_cell BK148.out 4).trans rfl; have hcz43_5 : w41.cell? ⟨gb148, 5, none⟩ = some (.bool a0_5) := (blk_cell BK148.out 5).trans rfl; have hcz43_6 : w41.cell? ⟨gb148, 6, none⟩ = some (.bool a0_6) := (blk_cell BK148.out 6).trans rfl; have hcz43_7 : w41.cell? ⟨gb148, 7, none⟩ = some (.int .i64 a0_7) := (blk_cell BK148.out 7).trans rfl; have hcz43_8 : w41.cell? ⟨gb148, 8, none⟩ = some (.bool a0_8) := (blk_cell BK148.out 8).trans rfl; have hcz43_9 : w41.cell? ⟨gb148, 9, none⟩ = some (.bool a0_9) := (blk_cell BK148.out 9).trans rfl; have hcz43_10 : w41.cell? ⟨gb148, 10, none⟩ = some (.int .i64 a0_10) := (blk_cell BK148.out 10).trans rfl; have hcz43_11 : w41.cell? ⟨gb148, 11, none⟩ = some (.slice A0_11 l0_11.length c0_11) := (blk_cell BK148.out 11).trans rfl; have hfz43_0 := blk_frozen BK148.out 0; have hfz43_1 := blk_frozen BK148.out 1; have hfz43_2 := blk_frozen BK148.out 2; have hfz43_3 := blk_frozen BK148.out 3; have hfz43_4 := blk_frozen BK148.out 4; have hfz43_5 := blk_frozen BK148.out 5; have hfz43_6 := blk_frozen BK148.out 6; have hfz43_7 := blk_frozen BK148.out 7; have hfz43_8 := blk_frozen BK148.out 8; have hfz43_9 := blk_frozen BK148.out 9; have hfz43_10 := blk_frozen BK148.out 10; have hfz43_11 := blk_frozen BK148.out 11) | ((with_reducible refine gate_callee (f := 31) rfl ?_); refine goesL_ (some 12) rfl rfl Try.func31 (by kernel_rfl) rfl #[.agg #[.bool a0_0, .bool a0_1, .bool a0_2, .bool a0_3, .bool a0_4, .bool a0_5, .bool a0_6, .int .i64 a0_7, .bool a0_8, .bool a0_9, .int .i64 a0_10, .slice A0_11 l0_11.length c0_11], .slice A1 l1.length c1] rfl (by (try simp only [List.map_toArray, List.map_cons, List.map_nil]); first | done | rfl | (simp only [List.length_drop, List.length_take]; rfl)) ?_; (with_reducible refine (crossbuckref19_Good.calls k a0_0 a0_1 a0_2 a0_3 a0_4 a0_5 a0_6 a0_7 a0_8 a0_9 a0_10 _ _ l0_11 _ _ l1 t150 _ ?side1 ?side2 ?side3 ?side4 A5.out).mono ?_); (case side1 => repeat (first | exact (Kd.C_below HR0_11.out HB.out) | (with_reducible refine Kd.C_alloc ?_ _) | (with_reducible refine Kd.C_drewN ?_ _) | (with_reducible refine Kd.C_drew ?_))); (case side2 => exact HC0_11.out); (case side3 => repeat (first | exact (Kd.C_below HR1.out HB.out) | (with_reducible refine Kd.C_alloc ?_ _) | (with_reducible refine Kd.C_drewN ?_ _) | (with_reducible refine Kd.C_drew ?_))); (case side4 => exact HC1.out); rintro e w44 ⟨rfl, hb⟩; refine ⟨_, rfl, ?_⟩; have n0_ := Aside0.mk (blk_below (g := gb148) (o := .cells #[.bool a0_0, .bool a0_1, .bool a0_2, .bool a0_3, .bool a0_4, .bool a0_5, .bool a0_6, .int .i64 a0_7, .bool a0_8, .bool a0_9, .int .i64 a0_10, .slice A0_11 l0_11.length c0_11] 43 (0, 0)) (by (with_reducible repeat (first | refine blk_drewN ?_ _ | refine blk_drew ?_ | refine blk_alloc ?_ _)); exact BK148.out) hb); have n1_ := Aside0.mk (blk_below (g := gb149) (o := .cells #[.int .i64 a2_0, .int .i64 a2_1] 46 (0, 0)) (by (with_reducible repeat (first | refine blk_drewN ?_ _ | refine blk_drew ?_ | refine blk_alloc ?_ _)); exact BK149.out) hb); have n2_ := Aside0.mk (below_step (by repeat (first | (with_reducible first | exact HB.out | apply below_alloc | apply pw_below_drewN | apply below_drew1 | refine below_set ?_ GE148.out | refine below_set ?_ GE149.out) | exact HB.out)) hb); clear BK148; clear BK149; clear HB; have BK148 := n0_; have BK149 := n1_; have HB := n2_; clear n0_ n1_ n2_; (try clear hb); (try clear hb2); (try clear hk); (try clear hi); have hcz45_0 : w44.cell? ⟨gb149, 0, none⟩ = some (.int .i64 a2_0) := (blk_cell BK149.out 0).trans rfl; have hcz45_1 : w44.cell? ⟨gb149, 1, none⟩ = some (.int .i64 a2_1) := (blk_cell BK149.out 1).trans rfl; have hfz45_0 := blk_frozen BK149.out 0; have hfz45_1 := blk_frozen BK149.out 1))
      go_ret
      exact ⟨by first | rfl | (simp [errW_none, errW_some] <;> rfl) | (simp [*, errW_none, errW_some] <;> rfl), by repeat (first | (with_reducible first | exact HB.out | apply below_alloc | apply pw_below_drewN | apply below_drew1 | refine below_set ?_ GE148.out | refine below_set ?_ GE149.out) | exact HB.out)⟩
  · rw [if_neg c6] at H
    have c6b0 : (a2_0 == 5) = false := beq_eq_false_iff_ne.mpr c6
    have c6b1 : (a2_0 != 5) = true := bne_iff_ne.mpr c6
    obtain rfl := Option.some.inj H
    go_enter Try.func19, Try.ntmps19
    go_wp2_with (first | ((with_reducible refine gate_dst (N := 4) rfl ?_); refine box_event ?hg (N := 4) ?hd (cs := #[.bool a0_0, .bool a0_1, .bool a0_2, .bool a0_3, .bool a0_4, .bool a0_5, .bool a0_6, .int .i64 a0_7, .bool a0_8, .bool a0_9, .int .i64 a0_10, .slice A0_11 l0_11.length c0_11]) (t := 43) ?hr ?_; (case hd => rfl); (case hg => rfl); (case hr => first | (go_simp; done) | (go_simp; rfl)); intro gb148 hg w46 hbox hb; have n0_ := Aside0.mk (below_step (by repeat (first | (with_reducible first | exact HB.out | apply below_alloc | apply pw_below_drewN | apply below_drew1) | exact HB.out)) hb); have n1_ := Aside0.mk (hbox); have n2_ := Aside0.mk ((by rw [hg]; exact (below_size (by repeat (first | (with_reducible first | exact HB.out | apply below_alloc | apply pw_below_drewN | apply below_drew1) | exact HB.out))) : w.heap.size ≤ gb148)); have n3_ := Aside0.mk ((by rw [hg]; exact (below_size (by repeat (first | (with_reducible first | exact HB.out | apply below_alloc | apply pw_below_drewN | apply below_drew1) | exact HB.out))) : w.heap.size ≤ gb148)); clear HB; have HB := n0_; have BK148 := n1_; have GW148 := n2_; have GE148 := n3_; clear n0_ n1_ n2_ n3_; clear hb hbox hg) | ((with_reducible refine gate_dst (N := 6) rfl ?_); refine box_event ?hg (N := 6) ?hd (cs := #[.int .i64 a2_0, .int .i64 a2_1]) (t := 46) ?hr ?_; (case hd => rfl); (case hg => rfl); (case hr => first | (go_simp; done) | (go_simp; rfl)); intro gb149 hg w47 hbox hb; have n0_ := Aside0.mk (blk_below (g := gb148) (o := .cells #[.bool a0_0, .bool a0_1, .bool a0_2, .bool a0_3, .bool a0_4, .bool a0_5, .bool a0_6, .int .i64 a0_7, .bool a0_8, .bool a0_9, .int .i64 a0_10, .slice A0_11 l0_11.length c0_11] 43 (0, 0)) (by (with_reducible repeat (first | refine blk_drewN ?_ _ | refine blk_drew ?_ | refine blk_alloc ?_ _)); exact BK148.out) hb); have n1_ := Aside0.mk (below_step (by repeat (first | (with_reducible first | exact HB.out | apply below_alloc | apply pw_below_drewN | apply below_drew1 | refine below_set ?_ GE148.out) | exact HB.out)) hb); have n2_ := Aside0.mk (hbox); have n3_ := Aside0.mk ((by rw [hg]; exact (below_size (by repeat (first | (with_reducible first | exact HB.out | apply below_alloc | apply pw_below_drewN | apply below_drew1 | refine below_set ?_ GE148.out) | exact HB.out))) : w.heap.size ≤ gb149)); have n4_ := Aside0.mk ((by rw [hg]; exact (below_size (by repeat (first | (with_reducible first | exact HB.out | apply below_alloc | apply pw_below_drewN | apply below_drew1 | refine below_set ?_ GE148.out) | exact HB.out))) : w.heap.size ≤ gb149)); have n5_ := Aside0.mk ((by rw [hg]; exact Nat.ne_of_lt (blk_lt (g := gb148) (o := .cells #[.bool a0_0, .bool a0_1, .bool a0_2, .bool a0_3, .bool a0_4, .bool a0_5, .bool a0_6, .int .i64 a0_7, .bool a0_8, .bool a0_9, .int .i64 a0_10, .slice A0_11 l0_11.length c0_11] 43 (0, 0)) (by (with_reducible repeat (first | refine blk_drewN ?_ _ | refine blk_drew ?_ | refine blk_alloc ?_ _)); exact BK148.out)) : gb148 ≠ gb149)); have n6_ := Aside0.mk ((by rw [hg]; exact Nat.ne_of_gt (blk_lt (g := gb148) (o := .cells #[.bool a0_0, .bool a0_1, .bool a0_2, .bool a0_3, .bool a0_4, .bool a0_5, .bool a0_6, .int .i64 a0_7, .bool a0_8, .bool a0_9, .int .i64 a0_10, .slice A0_11 l0_11.length c0_11] 43 (0, 0)) (by (with_reducible repeat (first | refine blk_drewN ?_ _ | refine blk_drew ?_ | refine blk_alloc ?_ _)); exact BK148.out)) : gb149 ≠ gb148)); clear BK148; clear HB; have BK148 := n0_; have HB := n1_; have BK149 := n2_; have GW149 := n3_; have GE149 := n4_; have NB148_149 := n5_; have NB149_148 := n6_; clear n0_ n1_ n2_ n3_ n4_ n5_ n6_; clear hb hbox hg; have hnb48 := NB148_149.out; have hnc48 := NB149_148.out; have hcz49_0 : w47.cell? ⟨gb148, 0, none⟩ = some (.bool a0_0) := (blk_cell BK148.out 0).trans rfl; have hcz49_1 : w47.cell? ⟨gb148, 1, none⟩ = some (.bool a0_1) := (blk_cell BK148.out 1).trans rfl; have hcz49_2 : w47.cell? ⟨gb148, 2, none⟩ = some (.bool a0_2) := (blk_cell BK148.out 2).trans rfl; have hcz49_3 : w47.cell? ⟨gb148, 3, none⟩ = some (.bool a0_3) := (blk_cell BK148.out 3).trans rfl; have hcz49_4 : w47.cell? ⟨gb148, 4, none⟩ = some (.bool a0_4) := (blk_cell BK148.out 4).trans rfl; have hcz49_5 : w47.cell? ⟨gb148, 5, none⟩ = some (.bool a0_5) := (blk_cell BK148.out 5).trans rfl; have hcz49_6 : w47.cell? ⟨gb148, 6, none⟩ = some (.bool a0_6) := (blk_cell BK148.out 6).trans rfl; have hcz49_7 : w47.cell? ⟨gb148, 7, none⟩ = some (.int .i64 a0_7) := (blk_cell BK148.out 7).trans rfl; have hcz49_8 : w47.cell? ⟨gb148, 8, none⟩ = some (.bool a0_8) := (blk_cell BK148.out 8).trans rfl; have hcz49_9 : w47.cell? ⟨gb148, 9, none⟩ = some (.bool a0_9) := (blk_cell BK148.out 9).trans rfl; have hcz49_10 : w47.cell? ⟨gb148, 10, none⟩ = some (.int .i64 a0_10) := (blk_cell BK148.out 10).trans rfl; have hcz49_11 : w47.cell? ⟨gb148, 11, none⟩ = some (.slice A0_11 l0_11.length c0_11) := (blk_cell BK148.out 11).trans rfl; have hfz49_0 := blk_frozen BK148.out 0; have hfz49_1 := blk_frozen BK148.out 1; have hfz49_2 := blk_frozen BK148.out 2; have hfz49_3 := blk_frozen BK148.out 3; have hfz49_4 := blk_frozen BK148.out 4; have hfz49_5 := blk_frozen BK148.out 5; have hfz49_6 := blk_frozen BK148.out 6; have hfz49_7 := blk_frozen BK148.out 7; have hfz49_8 := blk_frozen BK148.out 8; have hfz49_9 := blk_frozen BK148.out 9; have hfz49_10 := blk_frozen BK148.out 10; have hfz49_11 := blk_frozen BK148.out 11) | ((with_reducible refine gate_callee (f := 31) rfl ?_); refine goesL_ (some 12) rfl rfl Try.func31 (by kernel_rfl) rfl #[.agg #[.bool a0_0, .bool a0_1, .bool a0_2, .bool a0_3, .bool a0_4, .bool a0_5, .bool a0_6, .int .i64 a0_7, .bool a0_8, .bool a0_9, .int .i64 a0_10, .slice A0_11 l0_11.length c0_11], .slice A1 l1.length c1] rfl (by (try simp only [List.map_toArray, List.map_cons, List.map_nil]); first | done | rfl | (simp only [List.length_drop, List.length_take]; rfl)) ?_; (with_reducible refine (crossbuckref19_Good.calls k a0_0 a0_1 a0_2 a0_3 a0_4 a0_5 a0_6 a0_7 a0_8 a0_9 a0_10 _ _ l0_11 _ _ l1 t150 _ ?side1 ?side2 ?side3 ?side4 A5.out).mono ?_); (case side1 => repeat (first | exact (Kd.C_below HR0_11.out HB.out) | (with_reducible refine Kd.C_alloc ?_ _) | (with_reducible refine Kd.C_drewN ?_ _) | (with_reducible refine Kd.C_drew ?_))); (case side2 => exact HC0_11.out); (case side3 => repeat (first | exact (Kd.C_below HR1.out HB.out) | (with_reducible refine Kd.C_alloc ?_ _) | (with_reducible refine Kd.C_drewN ?_ _) | (with_reducible refine Kd.C_drew ?_))); (case side4 => exact HC1.out); rintro e w50 ⟨rfl, hb⟩; refine ⟨_, rfl, ?_⟩; have n0_ := Aside0.mk (blk_below (g := gb148) (o := .cells #[.bool a0_0, .bool a0_1, .bool a0_2, .bool a0_3, .bool a0_4, .bool a0_5, .bool a0_6, .int .i64 a0_7, .bool a0_8, .bool a0_9, .int .i64 a0_10, .slice A0_11 l0_11.length c0_11] 43 (0, 0)) (by (with_reducible repeat (first | refine blk_drewN ?_ _ | refine blk_drew ?_ | refine blk_alloc ?_ _)); exact BK148.out) hb); have n1_ := Aside0.mk (blk_below (g := gb149) (o := .cells #[.int .i64 a2_0, .int .i64 a2_1] 46 (0, 0)) (by (with_reducible repeat (first | refine blk_drewN ?_ _ | refine blk_drew ?_ | refine blk_alloc ?_ _)); exact BK149.out) hb); have n2_ := Aside0.mk (below_step (by repeat (first | (with_reducible first | exact HB.out | apply below_alloc | apply pw_below_drewN | apply below_drew1 | refine below_set ?_ GE148.out | refine below_set ?_ GE149.out) | exact HB.out)) hb); clear BK148; clear BK149; clear HB; have BK148 := n0_; have BK149 := n1_; have HB := n2_; clear n0_ n1_ n2_; (try clear hb); (try clear hb2); (try clear hk); (try clear hi); have hcz51_0 : w50.cell? ⟨gb149, 0, none⟩ = some (.int .i64 a2_0) := (blk_cell BK149.out 0).trans rfl; have hcz51_1 : w50.cell? ⟨gb149, 1, none⟩ = some (.int .i64 a2_1) := (blk_cell BK149.out 1).trans rfl; have hfz51_0 := blk_frozen BK149.out 0; have hfz51_1 := blk_frozen BK149.out 1))
    go_ret
    exact ⟨by first | rfl | (simp [errW_none, errW_some] <;> rfl) | (simp [*, errW_none, errW_some] <;> rfl), by repeat (first | (with_reducible first | exact HB.out | apply below_alloc | apply pw_below_drewN | apply below_drew1 | refine below_set ?_ GE148.out | refine below_set ?_ GE149.out) | exact HB.out)⟩

end Go.Proofs.Ytnmcnailgdcmoaa.A
