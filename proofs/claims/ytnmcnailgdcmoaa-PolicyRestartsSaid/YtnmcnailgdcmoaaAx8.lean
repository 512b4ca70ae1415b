/- Each function's own law: what the call answers, as a plain Lean function; a text that a program of this session wrote. -/
import Derived.Test.YtnmcnailgdcmoaaAx0
import Derived.Test.YtnmcnailgdcmoaaAx3
import Derived.Test.YtnmcnailgdcmoaaHandSmall23
namespace Go.Proofs.Ytnmcnailgdcmoaa.A
open Go.RowKit Go.Proofs.YtnmcnailgdcmoaaW.PrintWords Go.Proofs.YtnmcnailgdcmoaaW.PrintLast Go.Proofs.YtnmcnailgdcmoaaW.PrintMore
attribute [local go_sem] max2_int min2_int max_two min_two max_three min_three max_four min_four   -- for this text's walks alone
set_option linter.unusedVariables false
set_option linter.unusedSimpArgs false

/-! ### crossbucklaw23_PolicyRestarts: function 10 -/
def crossbucklaw23_PolicyRestarts.l0 : Nat → Int → Bool → List (S31) → Int → Int → Int → Int → Int → Int → Option (Bool)
  | 0, _, _, _, _, _, _, _, _, _ => none
  | k + 1, x2, x7, x9, x10, x188000, x188001, x188002, x195000, x195001 => if x10 < (x9.length : Int) then (if 0 ≤ x10 then (if (rd_T31 x9 x10).f2 = true then (some false) else (if (rd_T31 x9 x10).f0.f0 = true then (some false) else (if (rd_T31 x9 x10).f5 = true then (some false) else (if ((rd_T31 x9 x10).f3) = 0 then (crossbucklaw23_PolicyRestarts.l0 k x2 x7 x9 (wrap64 (x10 + 1)) x188000 x188001 x188002 x195000 x195001) else (some false))))) else (none)) else (if x7 = true then (if (x9.length : Int) = (mn (mx x2 0) 8) then (if x195001 = 1 then (if x195000 = 0 then (some false) else (if x195000 ≥ 1 then (if x195000 ≤ 6 then (if x195000 = x188000 then (some true) else (if x195000 = 6 then (if x188000 = 0 then (some true) else (some (x195000 == 3))) else (some (x195000 == 3)))) else (some false)) else (some false))) else (some false)) else (some false)) else (some false))
def crossbucklaw23_PolicyRestarts.f (k : Nat) (a0_0 : Int) (a0_1 : Int) (a0_2 : Int) (a1 : Bool) (a2 : Int) : Option (Bool) := (crossbucklaw23_small.f).bind fun t188 => ((policy_Restart.f k a0_0 a0_1 a0_2 a1 a2).bind fun bt189 => (crossbucklaw23_PolicyRestarts.l0 k a2 t188 bt189.2.2 0 a0_0 a0_1 a0_2 bt189.1 bt189.2.1))
theorem crossbucklaw23_PolicyRestarts.mono_l : ∀ k, (∀ y0 y1 y2 y3 y4 y5 y6 y7 y8, LeO (crossbucklaw23_PolicyRestarts.l0 k y0 y1 y2 y3 y4 y5 y6 y7 y8) (crossbucklaw23_PolicyRestarts.l0 (k + 1) y0 y1 y2 y3 y4 y5 y6 y7 y8))
  | 0 => fun _ _ _ _ _ _ _ _ _ r h => by simp [crossbucklaw23_PolicyRestarts.l0] at h
  | k + 1 => by
    have ih0 := crossbucklaw23_PolicyRestarts.mono_l k
    · intro y0 y1 y2 y3 y4 y5 y6 y7 y8
      unfold crossbucklaw23_PolicyRestarts.l0
      repeat' first
      | (with_reducible exact ih0 _ _ _ _ _ _ _ _ _)
      | (with_reducible exact policy_Restart.mono _ _ _ _ _ _)
      | (with_reducible exact LeO.refl _)
      | (with_reducible exact LeO.none _)
      | (with_reducible refine LeO.ite ?_ ?_)
      | (with_reducible refine LeO.bind ?_ (fun _ => ?_))
      | exact ih0 _ _ _ _ _ _ _ _ _
      | exact policy_Restart.mono _ _ _ _ _ _
      | exact LeO.none _
      | refine LeO.ite ?_ ?_
      | refine LeO.bind ?_ (fun _ => ?_)
theorem crossbucklaw23_PolicyRestarts.mono : ∀ a0 a1 a2 a3 a4 k, LeO (crossbucklaw23_PolicyRestarts.f k a0 a1 a2 a3 a4) (crossbucklaw23_PolicyRestarts.f (k + 1) a0 a1 a2 a3 a4) := by
  intro a0 a1 a2 a3 a4 k
  have ih0 := crossbucklaw23_PolicyRestarts.mono_l k
  unfold crossbucklaw23_PolicyRestarts.f
  repeat' first
      | (with_reducible exact ih0 _ _ _ _ _ _ _ _ _)
      | (with_reducible exact policy_Restart.mono _ _ _ _ _ _)
      | (with_reducible exact LeO.refl _)
      | (with_reducible exact LeO.none _)
      | (with_reducible refine LeO.ite ?_ ?_)
      | (with_reducible refine LeO.bind ?_ (fun _ => ?_))
      | exact ih0 _ _ _ _ _ _ _ _ _
      | exact policy_Restart.mono _ _ _ _ _ _
      | exact LeO.none _
      | refine LeO.ite ?_ ?_
      | refine LeO.bind ?_ (fun _ => ?_)
set_option maxHeartbeats 8000000 in
set_option maxRecDepth 100000 in
theorem crossbucklaw23_PolicyRestarts.calls (k : Nat) (a0_0 : Int) (a0_1 : Int) (a0_2 : Int) (a1 : Bool) (a2 : Int) (r : Bool) (w : World) (h : crossbucklaw23_PolicyRestarts.f k a0_0 a0_1 a0_2 a1 a2 = some r) :
    Calls Try.prog 10 #[.agg #[.int .i64 a0_0, .int .i64 a0_1, .int .i64 a0_2], .bool a1, .int .i64 a2] w fun e w' => e = .returned (.bool r) ∧ Below w.heap.size w w' := by
  have hu48 := Try.underlying48
  have hu46 := Try.underlying46
  have HB := Aside0.mk (Below.refl w.heap.size w)
  have H : ((crossbucklaw23_small.f).bind fun t188 => ((policy_Restart.f k a0_0 a0_1 a0_2 a1 a2).bind fun bt189 => (crossbucklaw23_PolicyRestarts.l0 k a2 t188 bt189.2.2 0 a0_0 a0_1 a0_2 bt189.1 bt189.2.1))) = some r := h
  clear h
  replace H := Option.bind_eq_some_iff.mp H
  obtain ⟨t188, A40, H⟩ := H
  replace H : ((policy_Restart.f k a0_0 a0_1 a0_2 a1 a2).bind fun bt189 => (crossbucklaw23_PolicyRestarts.l0 k a2 t188 bt189.2.2 0 a0_0 a0_1 a0_2 bt189.1 bt189.2.1)) = some r := H
  have A4 := Aside0.mk A40
  clear A40
  replace H := Option.bind_eq_some_iff.mp H
  obtain ⟨⟨t189, t190, t191⟩, A50, H⟩ := H
  replace H : (crossbucklaw23_PolicyRestarts.l0 k a2 t188 t191 0 a0_0 a0_1 a0_2 t189 t190) = some r := H
  have A5 := Aside0.mk A50
  clear A50
  have H' := Aside0.mk H
  clear H
  go_enter Try.func10, Try.ntmps10
  go_wp2_with (first | ((with_reducible refine gate_dst (N := 3) rfl ?_); (try (refine gate_guard (by rfl) ?_; dsimp only)); refine box_event ?hg (N := 3) ?hd (cs := #[.int .i64 a0_0, .int .i64 a0_1, .int .i64 a0_2]) (t := 48) ?hr ?_; (case hd => rfl); (case hg => rfl); (case hr => first | (go_simp; done) | (go_simp; rfl)); intro gb187 hg w6 hbox hb; have n0_ := Aside0.mk (below_step (by repeat (first | (with_reducible first | exact HB.out | apply below_alloc | apply pw_below_drewN | apply below_drew1) | exact HB.out)) hb); have n1_ := Aside0.mk (hbox); have n2_ := Aside0.mk ((by rw [hg]; exact (below_size (by repeat (first | (with_reducible first | exact HB.out | apply below_alloc | apply pw_below_drewN | apply below_drew1) | exact HB.out))) : w.heap.size ≤ gb187)); have n3_ := Aside0.mk ((by rw [hg]; exact (below_size (by repeat (first | (with_reducible first | exact HB.out | apply below_alloc | apply pw_below_drewN | apply below_drew1) | exact HB.out))) : w.heap.size ≤ gb187)); clear HB; have HB := n0_; have BK187 := n1_; have GW187 := n2_; have GE187 := n3_; clear n0_ n1_ n2_ n3_; clear hb hbox hg) | ((with_reducible refine gate_callee (f := 15) rfl ?_); refine goesL_ (some 11) rfl rfl Try.func15 (by kernel_rfl) rfl #[] rfl (by (try simp only [List.map_toArray, List.map_cons, List.map_nil]); first | done | rfl | (simp only [List.length_drop, List.length_take]; rfl)) ?_; (with_reducible refine (crossbucklaw23_small.calls  t188 _ A4.out).mono ?_); rintro e w7 ⟨rfl, hb⟩; refine ⟨_, rfl, ?_⟩; have n0_ := Aside0.mk (blk_below (g := gb187) (o := .cells #[.int .i64 a0_0, .int .i64 a0_1, .int .i64 a0_2] 48 (0, 0)) (by (with_reducible repeat (first | refine blk_drewN ?_ _ | refine blk_drew ?_ | refine blk_alloc ?_ _)); exact BK187.out) hb); have n1_ := Aside0.mk (below_step (by repeat (first | (with_reducible first | exact HB.out | apply below_alloc | apply pw_below_drewN | apply below_drew1 | refine below_set ?_ GE187.out) | exact HB.out)) hb); clear BK187; clear HB; have BK187 := n0_; have HB := n1_; clear n0_ n1_; (try clear hb); (try clear hb2); (try clear hk); (try clear hi); have hcz8_0 : w7.cell? ⟨gb187, 0, none⟩ = some (.int .i64 a0_0) := (blk_cell BK187.out 0).trans rfl; have hcz8_1 : w7.cell? ⟨gb187, 1, none⟩ = some (.int .i64 a0_1) := (blk_cell BK187.out 1).trans rfl; have hcz8_2 : w7.cell? ⟨gb187, 2, none⟩ = some (.int .i64 a0_2) := (blk_cell BK187.out 2).trans rfl; have hfz8_0 := blk_frozen BK187.out 0; have hfz8_1 := blk_frozen BK187.out 1; have hfz8_2 := blk_frozen BK187.out 2) | ((with_reducible refine gate_callee (f := 16) rfl ?_); refine goesL_ (some 16) rfl rfl Try.func16 (by kernel_rfl) rfl #[.agg #[.int .i64 a0_0, .int .i64 a0_1, .int .i64 a0_2], .bool a1, .int .i64 a2] rfl (by (try simp only [List.map_toArray, List.map_cons, List.map_nil]); first | done | rfl | (simp only [List.length_drop, List.length_take]; rfl)) ?_; (with_reducible refine (policy_Restart.calls k a0_0 a0_1 a0_2 a1 a2 t189 t190 t191 _ A5.out).mono ?_); rintro e w9 ⟨v192, rfl, ho0, hb⟩; refine ⟨_, rfl, ?_⟩; have n0_ := Aside0.mk (Kd.R_lower ho0 (below_size (by repeat (first | (with_reducible first | exact HB.out | apply below_alloc | apply pw_below_drewN | apply below_drew1 | refine below_set ?_ GE187.out) | exact HB.out)))); have n1_ := Aside0.mk (blk_below (g := gb187) (o := .cells #[.int .i64 a0_0, .int .i64 a0_1, .int .i64 a0_2] 48 (0, 0)) (by (with_reducible repeat (first | refine blk_drewN ?_ _ | refine blk_drew ?_ | refine blk_alloc ?_ _)); exact BK187.out) hb); have n2_ := Aside0.mk (below_step (by repeat (first | (with_reducible first | exact HB.out | apply below_alloc | apply pw_below_drewN | apply below_drew1 | refine below_set ?_ GE187.out) | exact HB.out)) hb); clear BK187; clear HB; have HO193 := n0_; have BK187 := n1_; have HB := n2_; clear n0_ n1_ n2_; (try clear hb); (try clear hb2); (try clear hk); (try clear hi); (try clear ho0)) | ((with_reducible refine gate_dst (N := 8) rfl ?_); (try (refine gate_guard (by rfl) ?_; dsimp only)); refine box_event ?hg (N := 8) ?hd (cs := #[.int .i64 0, .int .i64 0]) (t := 46) ?hr ?_; (case hd => rfl); (case hg => rfl); (case hr => first | (go_simp; done) | (go_simp; rfl)); intro gb194 hg w10 hbox hb; have n0_ := Aside0.mk (Kd.R_below (by (with_reducible repeat (first | apply Kd.R_alloc | apply Kd.R_drewN | apply Kd.R_drew)); exact HO193.out) hb); have n1_ := Aside0.mk (blk_below (g := gb187) (o := .cells #[.int .i64 a0_0, .int .i64 a0_1, .int .i64 a0_2] 48 (0, 0)) (by (with_reducible repeat (first | refine blk_drewN ?_ _ | refine blk_drew ?_ | refine blk_alloc ?_ _)); exact BK187.out) hb); have n2_ := Aside0.mk (below_step (by repeat (first | (with_reducible first | exact HB.out | apply below_alloc | apply pw_below_drewN | apply below_drew1 | refine below_set ?_ GE187.out) | exact HB.out)) hb); have n3_ := Aside0.mk (hbox); have n4_ := Aside0.mk ((by rw [hg]; exact (below_size (by repeat (first | (with_reducible first | exact HB.out | apply below_alloc | apply pw_below_drewN | apply below_drew1 | refine below_set ?_ GE187.out) | exact HB.out))) : w.heap.size ≤ gb194)); have n5_ := Aside0.mk ((by rw [hg]; exact (below_size (by repeat (first | (with_reducible first | exact HB.out | apply below_alloc | apply pw_below_drewN | apply below_drew1 | refine below_set ?_ GE187.out) | exact HB.out))) : w.heap.size ≤ gb194)); have n6_ := Aside0.mk ((by rw [hg]; exact Nat.ne_of_lt (blk_lt (g := gb187) (o := .cells #[.int .i64 a0_0, .int .i64 a0_1, .int .i64 a0_2] 48 (0, 0)) (by (with_reducible repeat (first | refine blk_drewN ?_ _ | refine blk_drew ?_ | refine blk_alloc ?_ _)); exact BK187.out)) : gb187 ≠ gb194)); have n7_ := Aside0.mk ((by rw [hg]; exact Nat.ne_of_gt (blk_lt (g := gb187) (o := .cells #[.int .i64 a0_0, .int .i64 a0_1, .int .i64 a0_2] 48 (0, 0)) (by (with_reducible repeat (first | refine blk_drewN ?_ _ | refine blk_drew ?_ | refine blk_alloc ?_ _)); exact BK187.out)) : gb194 ≠ gb187)); clear HO193; clear BK187; clear HB; have HO193 := n0_; have BK187 := n1_; have HB := n2_; have BK194 := n3_; have GW194 := n4_; have GE194 := n5_; have NB187_194 := n6_; have NB194_187 := n7_; clear n0_ n1_ n2_ n3_ n4_ n5_ n6_ n7_; clear hb hbox hg; have hnb11 := NB194_187.out; have hnc11 := NB187_194.out; have hcz12_0 : w10.cell? ⟨gb194, 0, none⟩ = some (.int .i64 0) := (blk_cell BK194.out 0).trans rfl; have hcz12_1 : w10.cell? ⟨gb194, 1, none⟩ = some (.int .i64 0) := (blk_cell BK194.out 1).trans rfl; have hfz12_0 := blk_frozen BK194.out 0; have hfz12_1 := blk_frozen BK194.out 1))
  go_loopg [10] k (fun kq v10 w' => ∃ (x10_1 : Int), v10 = .int .i64 x10_1 ∧ Aside0 (crossbucklaw23_PolicyRestarts.l0 kq a2 t188 t191 x10_1 a0_0 a0_1 a0_2 t189 t190 = some r) ∧ Aside0 (kq ≤ k) ∧ Aside0 (Kd.R k31 31 w' w.heap.size (fun _ => True) v192 t191) ∧ Aside0 (w'.heap[gb187]? = some (.cells #[.int .i64 a0_0, .int .i64 a0_1, .int .i64 a0_2] 48 (0, 0))) ∧ Aside0 (w'.heap[gb194]? = some (.cells #[.int .i64 t189, .int .i64 t190] 46 (0, 0))) ∧ Aside0 (Below w.heap.size w w'))
  case atStart => exact ⟨(0), (by first | rfl | (simp; done) | (simp [*]; done)), H', ⟨Nat.le_refl _⟩, ⟨by (with_reducible repeat (first | apply Kd.R_alloc | apply Kd.R_drewN | apply Kd.R_drew)); exact Kd.R_mono (Kd.R_far (p := ⟨gb194, 1, none⟩) (Kd.R_far (p := ⟨gb194, 0, none⟩) (Kd.R_types HO193.out BK194.out (by decide)) (fun _ hk => hk.2) (.int .i64 t189)) (fun _ hk => hk.2) (.int .i64 t190)) (fun _ hk => trivial)⟩, ⟨by (with_reducible repeat (first | refine blk_drewN ?_ _ | refine blk_drew ?_ | refine blk_alloc ?_ _)); refine blk_far ?_ NB187_194.out _; (with_reducible repeat (first | refine blk_drewN ?_ _ | refine blk_drew ?_ | refine blk_alloc ?_ _)); refine blk_far ?_ NB187_194.out _; (with_reducible repeat (first | refine blk_drewN ?_ _ | refine blk_drew ?_ | refine blk_alloc ?_ _)); exact BK187.out⟩, ⟨by (with_reducible repeat (first | refine blk_drewN ?_ _ | refine blk_drew ?_ | refine blk_alloc ?_ _)); refine blk_put (cs := #[.int .i64 t189, .int .i64 0]) ?_ 1 _ rfl; (with_reducible repeat (first | refine blk_drewN ?_ _ | refine blk_drew ?_ | refine blk_alloc ?_ _)); refine blk_put (cs := #[.int .i64 0, .int .i64 0]) ?_ 0 _ rfl; (with_reducible repeat (first | refine blk_drewN ?_ _ | refine blk_drew ?_ | refine blk_alloc ?_ _)); exact BK194.out⟩, ⟨by repeat (first | (with_reducible first | exact HB.out | apply below_alloc | apply pw_below_drewN | apply below_drew1 | refine below_set ?_ GE187.out | refine below_set ?_ GE194.out) | exact HB.out)⟩⟩
  case round =>
    clear H'
    try clear c1
    try clear p2
    try clear c10
    try clear c11
    try clear hcz12_0
    try clear hcz12_1
    try clear hcz8_0
    try clear hcz8_1
    try clear hcz8_2
    try clear hfz12_0
    try clear hfz12_1
    try clear hfz8_0
    try clear hfz8_1
    try clear hfz8_2
    obtain ⟨x10_1, rfl, HA, HK1, HO_9, BK187, BK194, HB⟩ := hrel
    cases gk with
    | zero => exact absurd HA.out (by simp [crossbucklaw23_PolicyRestarts.l0])
    | succ k1 =>
      have H := HA.out
      clear HA
      simp only [crossbucklaw23_PolicyRestarts.l0] at H
      by_cases c13 : x10_1 < (t191.length : Int)
      · rw [if_pos c13] at H
        have c13b0 : decide (x10_1 < (t191.length : Int)) = true := decide_eq_true c13
        clear c13
        by_cases c14 : 0 ≤ x10_1
        · rw [if_pos c14] at H
          have c14b0 : decide (0 ≤ x10_1) = true := decide_eq_true c14
          clear c14
          obtain ⟨bq15, hbq15⟩ : ∃ b_ : Bool, b_ = ((rd_T31 t191 x10_1).f2) := ⟨_, rfl⟩
          replace H : (if bq15 = true then (some false) else (if (rd_T31 t191 x10_1).f0.f0 = true then (some false) else (if (rd_T31 t191 x10_1).f5 = true then (some false) else (if ((rd_T31 t191 x10_1).f3) = 0 then (crossbucklaw23_PolicyRestarts.l0 k1 a2 t188 t191 (wrap64 (x10_1 + 1)) a0_0 a0_1 a0_2 t189 t190) else (some false))))) = some r := by rw [← hbq15] at H; exact H
          have Nbq15 := Aside0.mk hbq15
          clear hbq15
          by_cases c16 : bq15 = true
          · subst c16
            have H1 : (some false) = some r := by rw [if_pos rfl] at H; exact H
            clear H
            have H := H1
            clear H1
            obtain rfl := Option.some.inj H
            obtain ⟨Ao17, co17, eo17⟩ := Kd.R_slice HO_9.out
            subst eo17
            have p195 : 0 ≤ (x10_1 : Int) := of_decide_eq_true (by first | (with_reducible assumption) | assumption)
            have q195 : x10_1 < (t191.length : Int) := of_decide_eq_true (by first | (with_reducible assumption) | assumption)
            obtain ⟨ad195, e195, hx195_0, hx195_1, hx195_2, hx195_3, hx195_4, hx195_5, hx195_6, hx195_7, hx195_8, hx195_9, hx195_10⟩ := at_T31 (Kd.R_reads' HO_9.out).2.2 x10_1 p195 q195
            (try rw [← Nbq15.out] at hx195_0)
            (try rw [← Nbq15.out] at hx195_3)
            (try rw [← Nbq15.out] at hx195_6)
            (try rw [← Nbq15.out] at hx195_7)
            (try rw [← Nbq15.out] at hx195_9)
            (try rw [← Nbq15.out] at hx195_10)
            cases e195
            replace p195 := eq_true p195
            replace q195 := eq_true q195
            go_wp2
            go_ret
            exact ⟨by first | rfl | (simp [errW_none, errW_some] <;> rfl) | (simp [*, errW_none, errW_some] <;> rfl), by repeat (first | (with_reducible first | exact HB.out | apply below_alloc | apply pw_below_drewN | apply below_drew1 | refine below_set ?_ GE187.out | refine below_set ?_ GE194.out) | exact HB.out)⟩
          · replace c16 := Bool.eq_false_iff.mpr c16
            subst c16
            have H1 : (if (rd_T31 t191 x10_1).f0.f0 = true then (some false) else (if (rd_T31 t191 x10_1).f5 = true then (some false) else (if ((rd_T31 t191 x10_1).f3) = 0 then (crossbucklaw23_PolicyRestarts.l0 k1 a2 t188 t191 (wrap64 (x10_1 + 1)) a0_0 a0_1 a0_2 t189 t190) else (some false)))) = some r := by rw [if_neg (show ¬ (false = true) by decide)] at H; exact H
            clear H
            have H := H1
            clear H1
            obtain ⟨bq18, hbq18⟩ : ∃ b_ : Bool, b_ = ((rd_T31 t191 x10_1).f0.f0) := ⟨_, rfl⟩
            replace H : (if bq18 = true then (some false) else (if (rd_T31 t191 x10_1).f5 = true then (some false) else (if ((rd_T31 t191 x10_1).f3) = 0 then (crossbucklaw23_PolicyRestarts.l0 k1 a2 t188 t191 (wrap64 (x10_1 + 1)) a0_0 a0_1 a0_2 t189 t190) else (some false)))) = some r := by rw [← hbq18] at H; exact H
            have Nbq18 := Aside0.mk hbq18
            clear hbq18
            by_cases c19 : bq18 = true
            · subst c19
              have H1 : (some false) = some r := by rw [if_pos rfl] at H; exact H
              clear H
              have H := H1
              clear H1
              obtain rfl := Option.some.inj H
              obtain ⟨Ao20, co20, eo20⟩ := Kd.R_slice HO_9.out
              subst eo20
              have p195 : 0 ≤ (x10_1 : Int) := of_decide_eq_true (by first | (with_reducible assumption) | assumption)
              have q195 : x10_1 < (t191.length : Int) := of_decide_eq_true (by first | (with_reducible assumption) | assumption)
              obtain ⟨ad195, e195, hx195_0, hx195_1, hx195_2, hx195_3, hx195_4, hx195_5, hx195_6, hx195_7, hx195_8, hx195_9, hx195_10⟩ := at_T31 (Kd.R_reads' HO_9.out).2.2 x10_1 p195 q195
              (try rw [← Nbq15.out] at hx195_0)
              (try rw [← Nbq18.out] at hx195_0)
              (try rw [← Nbq15.out] at hx195_3)
              (try rw [← Nbq18.out] at hx195_3)
              (try rw [← Nbq15.out] at hx195_6)
              (try rw [← Nbq18.out] at hx195_6)
              (try rw [← Nbq15.out] at hx195_7)
              (try rw [← Nbq18.out] at hx195_7)
              (try rw [← Nbq15.out] at hx195_9)
              (try rw [← Nbq18.out] at hx195_9)
              (try rw [← Nbq15.out] at hx195_10)
              (try rw [← Nbq18.out] at hx195_10)
              cases e195
              replace p195 := eq_true p195
              replace q195 := eq_true q195
              have p196 : 0 ≤ (x10_1 : Int) := of_decide_eq_true (by first | (with_reducible assumption) | assumption)
              have q196 : x10_1 < (t191.length : Int) := of_decide_eq_true (by first | (with_reducible assumption) | assumption)
              obtain ⟨ad196, e196, hx196_0, hx196_1, hx196_2, hx196_3, hx196_4, hx196_5, hx196_6, hx196_7, hx196_8, hx196_9, hx196_10⟩ := at_T31 (Kd.R_reads' HO_9.out).2.2 x10_1 p196 q196
              (try rw [← Nbq15.out] at hx196_0)
              (try rw [← Nbq18.out] at hx196_0)
              (try rw [← Nbq15.out] at hx196_3)
              (try rw [← Nbq18.out] at hx196_3)
              (try rw [← Nbq15.out] at hx196_6)
              (try rw [← Nbq18.out] at hx196_6)
              (try rw [← Nbq15.out] at hx196_7)
              (try rw [← Nbq18.out] at hx196_7)
              (try rw [← Nbq15.out] at hx196_9)
              (try rw [← Nbq18.out] at hx196_9)
              (try rw [← Nbq15.out] at hx196_10)
              (try rw [← Nbq18.out] at hx196_10)
              obtain rfl : ad195 = ad196 := (by injection e196)
              replace p196 := eq_true p196
              replace q196 := eq_true q196
              go_wp2
              go_ret
              exact ⟨by first | rfl | (simp [errW_none, errW_some] <;> rfl) | (simp [*, errW_none, errW_some] <;> rfl), by repeat (first | (with_reducible first | exact HB.out | apply below_alloc | apply pw_below_drewN | apply below_drew1 | refine below_set ?_ GE187.out | refine below_set ?_ GE194.out) | exact HB.out)⟩
            · replace c19 := Bool.eq_false_iff.mpr c19
              subst c19
              have H1 : (if (rd_T31 t191 x10_1).f5 = true then (some false) else (if ((rd_T31 t191 x10_1).f3) = 0 then (crossbucklaw23_PolicyRestarts.l0 k1 a2 t188 t191 (wrap64 (x10_1 + 1)) a0_0 a0_1 a0_2 t189 t190) else (some false))) = some r := by rw [if_neg (show ¬ (false = true) by decide)] at H; exact H
              clear H
              have H := H1
              clear H1
              obtain ⟨bq21, hbq21⟩ : ∃ b_ : Bool, b_ = ((rd_T31 t191 x10_1).f5) := ⟨_, rfl⟩
              replace H : (if bq21 = true then (some false) else (if ((rd_T31 t191 x10_1).f3) = 0 then (crossbucklaw23_PolicyRestarts.l0 k1 a2 t188 t191 (wrap64 (x10_1 + 1)) a0_0 a0_1 a0_2 t189 t190) else (some false))) = some r := by rw [← hbq21] at H; exact H
              have Nbq21 := Aside0.mk hbq21
              clear hbq21
              by_cases c22 : bq21 = true
              · subst c22
                have H1 : (some false) = some r := by rw [if_pos rfl] at H; exact H
                clear H
                have H := H1
                clear H1
                obtain rfl := Option.some.inj H
                obtain ⟨Ao23, co23, eo23⟩ := Kd.R_slice HO_9.out
                subst eo23
                have p195 : 0 ≤ (x10_1 : Int) := of_decide_eq_true (by first | (with_reducible assumption) | assumption)
                have q195 : x10_1 < (t191.length : Int) := of_decide_eq_true (by first | (with_reducible assumption) | assumption)
                obtain ⟨ad195, e195, hx195_0, hx195_1, hx195_2, hx195_3, hx195_4, hx195_5, hx195_6, hx195_7, hx195_8, hx195_9, hx195_10⟩ := at_T31 (Kd.R_reads' HO_9.out).2.2 x10_1 p195 q195
                (try rw [← Nbq15.out] at hx195_0)
                (try rw [← Nbq18.out] at hx195_0)
                (try rw [← Nbq21.out] at hx195_0)
                (try rw [← Nbq15.out] at hx195_3)
                (try rw [← Nbq18.out] at hx195_3)
                (try rw [← Nbq21.out] at hx195_3)
                (try rw [← Nbq15.out] at hx195_6)
                (try rw [← Nbq18.out] at hx195_6)
                (try rw [← Nbq21.out] at hx195_6)
                (try rw [← Nbq15.out] at hx195_7)
                (try rw [← Nbq18.out] at hx195_7)
                (try rw [← Nbq21.out] at hx195_7)
                (try rw [← Nbq15.out] at hx195_9)
                (try rw [← Nbq18.out] at hx195_9)
                (try rw [← Nbq21.out] at hx195_9)
                (try rw [← Nbq15.out] at hx195_10)
                (try rw [← Nbq18.out] at hx195_10)
                (try rw [← Nbq21.out] at hx195_10)
                cases e195
                replace p195 := eq_true p195
                replace q195 := eq_true q195
                have p196 : 0 ≤ (x10_1 : Int) := of_decide_eq_true (by first | (with_reducible assumption) | assumption)
                have q196 : x10_1 < (t191.length : Int) := of_decide_eq_true (by first | (with_reducible assumption) | assumption)
                obtain ⟨ad196, e196, hx196_0, hx196_1, hx196_2, hx196_3, hx196_4, hx196_5, hx196_6, hx196_7, hx196_8, hx196_9, hx196_10⟩ := at_T31 (Kd.R_reads' HO_9.out).2.2 x10_1 p196 q196
                (try rw [← Nbq15.out] at hx196_0)
                (try rw [← Nbq18.out] at hx196_0)
                (try rw [← Nbq21.out] at hx196_0)
                (try rw [← Nbq15.out] at hx196_3)
                (try rw [← Nbq18.out] at hx196_3)
                (try rw [← Nbq21.out] at hx196_3)
                (try rw [← Nbq15.out] at hx196_6)
                (try rw [← Nbq18.out] at hx196_6)
                (try rw [← Nbq21.out] at hx196_6)
                (try rw [← Nbq15.out] at hx196_7)
                (try rw [← Nbq18.out] at hx196_7)
                (try rw [← Nbq21.out] at hx196_7)
                (try rw [← Nbq15.out] at hx196_9)
                (try rw [← Nbq18.out] at hx196_9)
                (try rw [← Nbq21.out] at hx196_9)
                (try rw [← Nbq15.out] at hx196_10)
                (try rw [← Nbq18.out] at hx196_10)
                (try rw [← Nbq21.out] at hx196_10)
                obtain rfl : ad195 = ad196 := (by injection e196)
                replace p196 := eq_true p196
                replace q196 := eq_true q196
                have p197 : 0 ≤ (x10_1 : Int) := of_decide_eq_true (by first | (with_reducible assumption) | assumption)
                have q197 : x10_1 < (t191.length : Int) := of_decide_eq_true (by first | (with_reducible assumption) | assumption)
                obtain ⟨ad197, e197, hx197_0, hx197_1, hx197_2, hx197_3, hx197_4, hx197_5, hx197_6, hx197_7, hx197_8, hx197_9, hx197_10⟩ := at_T31 (Kd.R_reads' HO_9.out).2.2 x10_1 p197 q197
                (try rw [← Nbq15.out] at hx197_0)
                (try rw [← Nbq18.out] at hx197_0)
                (try rw [← Nbq21.out] at hx197_0)
                (try rw [← Nbq15.out] at hx197_3)
                (try rw [← Nbq18.out] at hx197_3)
                (try rw [← Nbq21.out] at hx197_3)
                (try rw [← Nbq15.out] at hx197_6)
                (try rw [← Nbq18.out] at hx197_6)
                (try rw [← Nbq21.out] at hx197_6)
                (try rw [← Nbq15.out] at hx197_7)
                (try rw [← Nbq18.out] at hx197_7)
                (try rw [← Nbq21.out] at hx197_7)
                (try rw [← Nbq15.out] at hx197_9)
                (try rw [← Nbq18.out] at hx197_9)
                (try rw [← Nbq21.out] at hx197_9)
                (try rw [← Nbq15.out] at hx197_10)
                (try rw [← Nbq18.out] at hx197_10)
                (try rw [← Nbq21.out] at hx197_10)
                obtain rfl : ad195 = ad197 := (by injection e197)
                replace p197 := eq_true p197
                replace q197 := eq_true q197
                go_wp2
                go_ret
                exact ⟨by first | rfl | (simp [errW_none, errW_some] <;> rfl) | (simp [*, errW_none, errW_some] <;> rfl), by repeat (first | (with_reducible first | exact HB.out | apply below_alloc | apply pw_below_drewN | apply below_drew1 | refine below_set ?_ GE187.out | refine below_set ?_ GE194.out) | exact HB.out)⟩
              · replace c22 := Bool.eq_false_iff.mpr c22
                subst c22
                have H1 : (if ((rd_T31 t191 x10_1).f3) = 0 then (crossbucklaw23_PolicyRestarts.l0 k1 a2 t188 t191 (wrap64 (x10_1 + 1)) a0_0 a0_1 a0_2 t189 t190) else (some false)) = some r := by rw [if_neg (show ¬ (false = true) by decide)] at H; exact H
                clear H
                have H := H1
                clear H1
                by_cases c24 : ((rd_T31 t191 x10_1).f3) = 0
                · rw [if_pos c24] at H
                  have c24b0 : (((rd_T31 t191 x10_1).f3) == 0) = true := beq_iff_eq.mpr c24
                  have c24b1 : (((rd_T31 t191 x10_1).f3) != 0) = false := bne_eq_false_iff_eq.mpr c24
                  clear c24
                  have H' := Aside0.mk H
                  clear H
                  obtain ⟨Ao25, co25, eo25⟩ := Kd.R_slice HO_9.out
                  subst eo25
                  have p195 : 0 ≤ (x10_1 : Int) := of_decide_eq_true (by first | (with_reducible assumption) | assumption)
                  have q195 : x10_1 < (t191.length : Int) := of_decide_eq_true (by first | (with_reducible assumption) | assumption)
                  obtain ⟨ad195, e195, hx195_0, hx195_1, hx195_2, hx195_3, hx195_4, hx195_5, hx195_6, hx195_7, hx195_8, hx195_9, hx195_10⟩ := at_T31 (Kd.R_reads' HO_9.out).2.2 x10_1 p195 q195
                  (try rw [← Nbq15.out] at hx195_0)
                  (try rw [← Nbq18.out] at hx195_0)
                  (try rw [← Nbq21.out] at hx195_0)
                  (try rw [← Nbq15.out] at hx195_3)
                  (try rw [← Nbq18.out] at hx195_3)
                  (try rw [← Nbq21.out] at hx195_3)
                  (try rw [← Nbq15.out] at hx195_6)
                  (try rw [← Nbq18.out] at hx195_6)
                  (try rw [← Nbq21.out] at hx195_6)
                  (try rw [← Nbq15.out] at hx195_7)
                  (try rw [← Nbq18.out] at hx195_7)
                  (try rw [← Nbq21.out] at hx195_7)
                  (try rw [← Nbq15.out] at hx195_9)
                  (try rw [← Nbq18.out] at hx195_9)
                  (try rw [← Nbq21.out] at hx195_9)
                  (try rw [← Nbq15.out] at hx195_10)
                  (try rw [← Nbq18.out] at hx195_10)
                  (try rw [← Nbq21.out] at hx195_10)
                  cases e195
                  replace p195 := eq_true p195
                  replace q195 := eq_true q195
                  have p196 : 0 ≤ (x10_1 : Int) := of_decide_eq_true (by first | (with_reducible assumption) | assumption)
                  have q196 : x10_1 < (t191.length : Int) := of_decide_eq_true (by first | (with_reducible assumption) | assumption)
                  obtain ⟨ad196, e196, hx196_0, hx196_1, hx196_2, hx196_3, hx196_4, hx196_5, hx196_6, hx196_7, hx196_8, hx196_9, hx196_10⟩ := at_T31 (Kd.R_reads' HO_9.out).2.2 x10_1 p196 q196
                  (try rw [← Nbq15.out] at hx196_0)
                  (try rw [← Nbq18.out] at hx196_0)
                  (try rw [← Nbq21.out] at hx196_0)
                  (try rw [← Nbq15.out] at hx196_3)
                  (try rw [← Nbq18.out] at hx196_3)
                  (try rw [← Nbq21.out] at hx196_3)
                  (try rw [← Nbq15.out] at hx196_6)
                  (try rw [← Nbq18.out] at hx196_6)
                  (try rw [← Nbq21.out] at hx196_6)
                  (try rw [← Nbq15.out] at hx196_7)
                  (try rw [← Nbq18.out] at hx196_7)
                  (try rw [← Nbq21.out] at hx196_7)
                  (try rw [← Nbq15.out] at hx196_9)
                  (try rw [← Nbq18.out] at hx196_9)
                  (try rw [← Nbq21.out] at hx196_9)
                  (try rw [← Nbq15.out] at hx196_10)
                  (try rw [← Nbq18.out] at hx196_10)
                  (try rw [← Nbq21.out] at hx196_10)
                  obtain rfl : ad195 = ad196 := (by injection e196)
                  replace p196 := eq_true p196
                  replace q196 := eq_true q196
                  have p197 : 0 ≤ (x10_1 : Int) := of_decide_eq_true (by first | (with_reducible assumption) | assumption)
                  have q197 : x10_1 < (t191.length : Int) := of_decide_eq_true (by first | (with_reducible assumption) | assumption)
                  obtain ⟨ad197, e197, hx197_0, hx197_1, hx197_2, hx197_3, hx197_4, hx197_5, hx197_6, hx197_7, hx197_8, hx197_9, hx197_10⟩ := at_T31 (Kd.R_reads' HO_9.out).2.2 x10_1 p197 q197
                  (try rw [← Nbq15.out] at hx197_0)
                  (try rw [← Nbq18.out] at hx197_0)
                  (try rw [← Nbq21.out] at hx197_0)
                  (try rw [← Nbq15.out] at hx197_3)
                  (try rw [← Nbq18.out] at hx197_3)
                  (try rw [← Nbq21.out] at hx197_3)
                  (try rw [← Nbq15.out] at hx197_6)
                  (try rw [← Nbq18.out] at hx197_6)
                  (try rw [← Nbq21.out] at hx197_6)
                  (try rw [← Nbq15.out] at hx197_7)
                  (try rw [← Nbq18.out] at hx197_7)
                  (try rw [← Nbq21.out] at hx197_7)
                  (try rw [← Nbq15.out] at hx197_9)
                  (try rw [← Nbq18.out] at hx197_9)
                  (try rw [← Nbq21.out] at hx197_9)
                  (try rw [← Nbq15.out] at hx197_10)
                  (try rw [← Nbq18.out] at hx197_10)
                  (try rw [← Nbq21.out] at hx197_10)
                  obtain rfl : ad195 = ad197 := (by injection e197)
                  replace p197 := eq_true p197
                  replace q197 := eq_true q197
                  have p198 : 0 ≤ (x10_1 : Int) := of_decide_eq_true (by first | (with_reducible assumption) | assumption)
                  have q198 : x10_1 < (t191.length : Int) := of_decide_eq_true (by first | (with_reducible assumption) | assumption)
                  obtain ⟨ad198, e198, hx198_0, hx198_1, hx198_2, hx198_3, hx198_4, hx198_5, hx198_6, hx198_7, hx198_8, hx198_9, hx198_10⟩ := at_T31 (Kd.R_reads' HO_9.out).2.2 x10_1 p198 q198
                  (try rw [← Nbq15.out] at hx198_0)
                  (try rw [← Nbq18.out] at hx198_0)
                  (try rw [← Nbq21.out] at hx198_0)
                  (try rw [← Nbq15.out] at hx198_3)
                  (try rw [← Nbq18.out] at hx198_3)
                  (try rw [← Nbq21.out] at hx198_3)
                  (try rw [← Nbq15.out] at hx198_6)
                  (try rw [← Nbq18.out] at hx198_6)
                  (try rw [← Nbq21.out] at hx198_6)
                  (try rw [← Nbq15.out] at hx198_7)
                  (try rw [← Nbq18.out] at hx198_7)
                  (try rw [← Nbq21.out] at hx198_7)
                  (try rw [← Nbq15.out] at hx198_9)
                  (try rw [← Nbq18.out] at hx198_9)
                  (try rw [← Nbq21.out] at hx198_9)
                  (try rw [← Nbq15.out] at hx198_10)
                  (try rw [← Nbq18.out] at hx198_10)
                  (try rw [← Nbq21.out] at hx198_10)
                  obtain rfl : ad195 = ad198 := (by injection e198)
                  replace p198 := eq_true p198
                  replace q198 := eq_true q198
                  go_wp2
                  go_roundg k1
                  case measure => have := HK1.out; omega
                  case rel => exact ⟨(wrap64 (x10_1 + 1)), (by first | rfl | (simp; done) | (simp [*]; done)), H', ⟨by have := HK1.out; omega⟩, ⟨by (with_reducible repeat (first | apply Kd.R_alloc | apply Kd.R_drewN | apply Kd.R_drew)); exact HO_9.out⟩, ⟨by (with_reducible repeat (first | refine blk_drewN ?_ _ | refine blk_drew ?_ | refine blk_alloc ?_ _)); exact BK187.out⟩, ⟨by (with_reducible repeat (first | refine blk_drewN ?_ _ | refine blk_drew ?_ | refine blk_alloc ?_ _)); exact BK194.out⟩, ⟨by repeat (first | (with_reducible first | exact HB.out | apply below_alloc | apply pw_below_drewN | apply below_drew1 | refine below_set ?_ GE187.out | refine below_set ?_ GE194.out) | exact HB.out)⟩⟩
                · rw [if_neg c24] at H
                  have c24b0 : (((rd_T31 t191 x10_1).f3) == 0) = false := beq_eq_false_iff_ne.mpr c24
                  have c24b1 : (((rd_T31 t191 x10_1).f3) != 0) = true := bne_iff_ne.mpr c24
                  obtain rfl := Option.some.inj H
                  obtain ⟨Ao26, co26, eo26⟩ := Kd.R_slice HO_9.out
                  subst eo26
                  have p195 : 0 ≤ (x10_1 : Int) := of_decide_eq_true (by first | (with_reducible assumption) | assumption)
                  have q195 : x10_1 < (t191.length : Int) := of_decide_eq_true (by first | (with_reducible assumption) | assumption)
                  obtain ⟨ad195, e195, hx195_0, hx195_1, hx195_2, hx195_3, hx195_4, hx195_5, hx195_6, hx195_7, hx195_8, hx195_9, hx195_10⟩ := at_T31 (Kd.R_reads' HO_9.out).2.2 x10_1 p195 q195
                  (try rw [← Nbq15.out] at hx195_0)
                  (try rw [← Nbq18.out] at hx195_0)
                  (try rw [← Nbq21.out] at hx195_0)
                  (try rw [← Nbq15.out] at hx195_3)
                  (try rw [← Nbq18.out] at hx195_3)
                  (try rw [← Nbq21.out] at hx195_3)
                  (try rw [← Nbq15.out] at hx195_6)
                  (try rw [← Nbq18.out] at hx195_6)
                  (try rw [← Nbq21.out] at hx195_6)
                  (try rw [← Nbq15.out] at hx195_7)
                  (try rw [← Nbq18.out] at hx195_7)
                  (try rw [← Nbq21.out] at hx195_7)
                  (try rw [← Nbq15.out] at hx195_9)
                  (try rw [← Nbq18.out] at hx195_9)
                  (try rw [← Nbq21.out] at hx195_9)
                  (try rw [← Nbq15.out] at hx195_10)
                  (try rw [← Nbq18.out] at hx195_10)
                  (try rw [← Nbq21.out] at hx195_10)
                  cases e195
                  replace p195 := eq_true p195
                  replace q195 := eq_true q195
                  have p196 : 0 ≤ (x10_1 : Int) := of_decide_eq_true (by first | (with_reducible assumption) | assumption)
                  have q196 : x10_1 < (t191.length : Int) := of_decide_eq_true (by first | (with_reducible assumption) | assumption)
                  obtain ⟨ad196, e196, hx196_0, hx196_1, hx196_2, hx196_3, hx196_4, hx196_5, hx196_6, hx196_7, hx196_8, hx196_9, hx196_10⟩ := at_T31 (Kd.R_reads' HO_9.out).2.2 x10_1 p196 q196
                  (try rw [← Nbq15.out] at hx196_0)
                  (try rw [← Nbq18.out] at hx196_0)
                  (try rw [← Nbq21.out] at hx196_0)
                  (try rw [← Nbq15.out] at hx196_3)
                  (try rw [← Nbq18.out] at hx196_3)
                  (try rw [← Nbq21.out] at hx196_3)
                  (try rw [← Nbq15.out] at hx196_6)
                  (try rw [← Nbq18.out] at hx196_6)
                  (try rw [← Nbq21.out] at hx196_6)
                  (try rw [← Nbq15.out] at hx196_7)
                  (try rw [← Nbq18.out] at hx196_7)
                  (try rw [← Nbq21.out] at hx196_7)
                  (try rw [← Nbq15.out] at hx196_9)
                  (try rw [← Nbq18.out] at hx196_9)
                  (try rw [← Nbq21.out] at hx196_9)
                  (try rw [← Nbq15.out] at hx196_10)
                  (try rw [← Nbq18.out] at hx196_10)
                  (try rw [← Nbq21.out] at hx196_10)
                  obtain rfl : ad195 = ad196 := (by injection e196)
                  replace p196 := eq_true p196
                  replace q196 := eq_true q196
                  have p197 : 0 ≤ (x10_1 : Int) := of_decide_eq_true (by first | (with_reducible assumption) | assumption)
                  have q197 : x10_1 < (t191.length : Int) := of_decide_eq_true (by first | (with_reducible assumption) | assumption)
                  obtain ⟨ad197, e197, hx197_0, hx197_1, hx197_2, hx197_3, hx197_4, hx197_5, hx197_6, hx197_7, hx197_8, hx197_9, hx197_10⟩ := at_T31 (Kd.R_reads' HO_9.out).2.2 x10_1 p197 q197
                  (try rw [← Nbq15.out] at hx197_0)
                  (try rw [← Nbq18.out] at hx197_0)
                  (try rw [← Nbq21.out] at hx197_0)
                  (try rw [← Nbq15.out] at hx197_3)
                  (try rw [← Nbq18.out] at hx197_3)
                  (try rw [← Nbq21.out] at hx197_3)
                  (try rw [← Nbq15.out] at hx197_6)
                  (try rw [← Nbq18.out] at hx197_6)
                  (try rw [← Nbq21.out] at hx197_6)
                  (try rw [← Nbq15.out] at hx197_7)
                  (try rw [← Nbq18.out] at hx197_7)
                  (try rw [← Nbq21.out] at hx197_7)
                  (try rw [← Nbq15.out] at hx197_9)
                  (try rw [← Nbq18.out] at hx197_9)
                  (try rw [← Nbq21.out] at hx197_9)
                  (try rw [← Nbq15.out] at hx197_10)
                  (try rw [← Nbq18.out] at hx197_10)
                  (try rw [← Nbq21.out] at hx197_10)
                  obtain rfl : ad195 = ad197 := (by injection e197)
                  replace p197 := eq_true p197
                  replace q197 := eq_true q197
                  have p198 : 0 ≤ (x10_1 : Int) := of_decide_eq_true (by first | (with_reducible assumption) | assumption)
                  have q198 : x10_1 < (t191.length : Int) := of_decide_eq_true (by first | (with_reducible assumption) | assumption)
                  obtain ⟨ad198, e198, hx198_0, hx198_1, hx198_2, hx198_3, hx198_4, hx198_5, hx198_6, hx198_7, hx198_8, hx198_9, hx198_10⟩ := at_T31 (Kd.R_reads' HO_9.out).2.2 x10_1 p198 q198
                  (try rw [← Nbq15.out] at hx198_0)
                  (try rw [← Nbq18.out] at hx198_0)
                  (try rw [← Nbq21.out] at hx198_0)
                  (try rw [← Nbq15.out] at hx198_3)
                  (try rw [← Nbq18.out] at hx198_3)
                  (try rw [← Nbq21.out] at hx198_3)
                  (try rw [← Nbq15.out] at hx198_6)
                  (try rw [← Nbq18.out] at hx198_6)
                  (try rw [← Nbq21.out] at hx198_6)
                  (try rw [← Nbq15.out] at hx198_7)
                  (try rw [← Nbq18.out] at hx198_7)
                  (try rw [← Nbq21.out] at hx198_7)
                  (try rw [← Nbq15.out] at hx198_9)
                  (try rw [← Nbq18.out] at hx198_9)
                  (try rw [← Nbq21.out] at hx198_9)
                  (try rw [← Nbq15.out] at hx198_10)
                  (try rw [← Nbq18.out] at hx198_10)
                  (try rw [← Nbq21.out] at hx198_10)
                  obtain rfl : ad195 = ad198 := (by injection e198)
                  replace p198 := eq_true p198
                  replace q198 := eq_true q198
                  go_wp2
                  go_ret
                  exact ⟨by first | rfl | (simp [errW_none, errW_some] <;> rfl) | (simp [*, errW_none, errW_some] <;> rfl), by repeat (first | (with_reducible first | exact HB.out | apply below_alloc | apply pw_below_drewN | apply below_drew1 | refine below_set ?_ GE187.out | refine below_set ?_ GE194.out) | exact HB.out)⟩
        · rw [if_neg c14] at H
          exact absurd H (by simp)
      · rw [if_neg c13] at H
        have c13b0 : decide (x10_1 < (t191.length : Int)) = false := decide_eq_false c13
        clear c13
        by_cases c27 : t188 = true
        · subst c27
          have H1 : (if (t191.length : Int) = (mn (mx a2 0) 8) then (if t190 = 1 then (if t189 = 0 then (some false) else (if t189 ≥ 1 then (if t189 ≤ 6 then (if t189 = a0_0 then (some true) else (if t189 = 6 then (if a0_0 = 0 then (some true) else (some (t189 == 3))) else (some (t189 == 3)))) else (some false)) else (some false))) else (some false)) else (some false)) = some r := by rw [if_pos rfl] at H; exact H
          clear H
          have H := H1
          clear H1
          obtain ⟨ji28, hji28⟩ : ∃ j_ : Int, (mx a2 0) = j_ := ⟨_, rfl⟩
          replace H : (if (t191.length : Int) = (mn (ji28) 8) then (if t190 = 1 then (if t189 = 0 then (some false) else (if t189 ≥ 1 then (if t189 ≤ 6 then (if t189 = a0_0 then (some true) else (if t189 = 6 then (if a0_0 = 0 then (some true) else (some (t189 == 3))) else (some (t189 == 3)))) else (some false)) else (some false))) else (some false)) else (some false)) = some r := by first | (rw [hji28] at H; exact H) | (simp only [hji28] at H ⊢; exact H)
          have hji28_ : (if a2 < 0 then 0 else a2) = ji28 := hji28
          obtain ⟨ji29, hji29⟩ : ∃ j_ : Int, (mn (ji28) 8) = j_ := ⟨_, rfl⟩
          replace H : (if (t191.length : Int) = (ji29) then (if t190 = 1 then (if t189 = 0 then (some false) else (if t189 ≥ 1 then (if t189 ≤ 6 then (if t189 = a0_0 then (some true) else (if t189 = 6 then (if a0_0 = 0 then (some true) else (some (t189 == 3))) else (some (t189 == 3)))) else (some false)) else (some false))) else (some false)) else (some false)) = some r := by first | (rw [hji29] at H; exact H) | (simp only [hji29] at H ⊢; exact H)
          have hji29_ : (if 8 < (ji28) then 8 else (ji28)) = ji29 := hji29
          by_cases c30 : (t191.length : Int) = (ji29)
          · rw [if_pos c30] at H
            have c30b0 : ((t191.length : Int) == (ji29)) = true := beq_iff_eq.mpr c30
            have c30b1 : ((t191.length : Int) != (ji29)) = false := bne_eq_false_iff_eq.mpr c30
            clear c30
            by_cases c31 : t190 = 1
            · rw [if_pos c31] at H
              have c31b0 : (t190 == 1) = true := beq_iff_eq.mpr c31
              have c31b1 : (t190 != 1) = false := bne_eq_false_iff_eq.mpr c31
              clear c31
              by_cases c32 : t189 = 0
              · rw [if_pos c32] at H
                have c32b0 : (t189 == 0) = true := beq_iff_eq.mpr c32
                have c32b1 : (t189 != 0) = false := bne_eq_false_iff_eq.mpr c32
                clear c32
                obtain rfl := Option.some.inj H
                obtain ⟨Ao33, co33, eo33⟩ := Kd.R_slice HO_9.out
                subst eo33
                have hnb34 := NB194_187.out
                have hnc34 := NB187_194.out
                have hcz35_0 : wr.cell? ⟨gb194, 0, none⟩ = some (.int .i64 t189) := (blk_cell BK194.out 0).trans rfl
                have hcz35_1 : wr.cell? ⟨gb194, 1, none⟩ = some (.int .i64 t190) := (blk_cell BK194.out 1).trans rfl
                have hfz35_0 := blk_frozen BK194.out 0
                have hfz35_1 := blk_frozen BK194.out 1
                go_wp2
                go_ret
                exact ⟨by first | rfl | (simp [errW_none, errW_some] <;> rfl) | (simp only [← hji28, ← hji29]; first | rfl | (simp [errW_none, errW_some] <;> rfl)) | (simp [*, errW_none, errW_some] <;> rfl), by repeat (first | (with_reducible first | exact HB.out | apply below_alloc | apply pw_below_drewN | apply below_drew1 | refine below_set ?_ GE187.out | refine below_set ?_ GE194.out) | exact HB.out)⟩
              · rw [if_neg c32] at H
                have c32b0 : (t189 == 0) = false := beq_eq_false_iff_ne.mpr c32
                have c32b1 : (t189 != 0) = true := bne_iff_ne.mpr c32
                by_cases c36 : t189 ≥ 1
                · rw [if_pos c36] at H
                  have c36b0 : decide (1 ≤ t189) = true := decide_eq_true c36
                  clear c36
                  by_cases c37 : t189 ≤ 6
                  · rw [if_pos c37] at H
                    have c37b0 : decide (t189 ≤ 6) = true := decide_eq_true c37
                    clear c37
                    by_cases c38 : t189 = a0_0
                    · rw [if_pos c38] at H
                      have c38b0 : (t189 == a0_0) = true := beq_iff_eq.mpr c38
                      have c38b1 : (t189 != a0_0) = false := bne_eq_false_iff_eq.mpr c38
                      clear c38
                      obtain rfl := Option.some.inj H
                      obtain ⟨Ao39, co39, eo39⟩ := Kd.R_slice HO_9.out
                      subst eo39
                      have hnb40 := NB194_187.out
                      have hnc40 := NB187_194.out
                      have hcz41_0 : wr.cell? ⟨gb194, 0, none⟩ = some (.int .i64 t189) := (blk_cell BK194.out 0).trans rfl
                      have hcz41_1 : wr.cell? ⟨gb194, 1, none⟩ = some (.int .i64 t190) := (blk_cell BK194.out 1).trans rfl
                      have hfz41_0 := blk_frozen BK194.out 0
                      have hfz41_1 := blk_frozen BK194.out 1
                      have hcz42_0 : wr.cell? ⟨gb187, 0, none⟩ = some (.int .i64 a0_0) := (blk_cell BK187.out 0).trans rfl
                      have hcz42_1 : wr.cell? ⟨gb187, 1, none⟩ = some (.int .i64 a0_1) := (blk_cell BK187.out 1).trans rfl
                      have hcz42_2 : wr.cell? ⟨gb187, 2, none⟩ = some (.int .i64 a0_2) := (blk_cell BK187.out 2).trans rfl
                      have hfz42_0 := blk_frozen BK187.out 0
                      have hfz42_1 := blk_frozen BK187.out 1
                      have hfz42_2 := blk_frozen BK187.out 2
                      go_wp2
                      go_ret
                      exact ⟨by first | rfl | (simp [errW_none, errW_some] <;> rfl) | (simp only [← hji28, ← hji29]; first | rfl | (simp [errW_none, errW_some] <;> rfl)) | (simp [*, errW_none, errW_some] <;> rfl), by repeat (first | (with_reducible first | exact HB.out | apply below_alloc | apply pw_below_drewN | apply below_drew1 | refine below_set ?_ GE187.out | refine below_set ?_ GE194.out) | exact HB.out)⟩
                    · rw [if_neg c38] at H
                      have c38b0 : (t189 == a0_0) = false := beq_eq_false_iff_ne.mpr c38
                      have c38b1 : (t189 != a0_0) = true := bne_iff_ne.mpr c38
                      by_cases c43 : t189 = 6
                      · rw [if_pos c43] at H
                        have c43b0 : (t189 == 6) = true := beq_iff_eq.mpr c43
                        have c43b1 : (t189 != 6) = false := bne_eq_false_iff_eq.mpr c43
                        clear c43
                        by_cases c44 : a0_0 = 0
                        · rw [if_pos c44] at H
                          have c44b0 : (a0_0 == 0) = true := beq_iff_eq.mpr c44
                          have c44b1 : (a0_0 != 0) = false := bne_eq_false_iff_eq.mpr c44
                          clear c44
                          obtain rfl := Option.some.inj H
                          obtain ⟨Ao45, co45, eo45⟩ := Kd.R_slice HO_9.out
                          subst eo45
                          have hnb46 := NB194_187.out
                          have hnc46 := NB187_194.out
                          have hcz47_0 : wr.cell? ⟨gb194, 0, none⟩ = some (.int .i64 t189) := (blk_cell BK194.out 0).trans rfl
                          have hcz47_1 : wr.cell? ⟨gb194, 1, none⟩ = some (.int .i64 t190) := (blk_cell BK194.out 1).trans rfl
                          have hfz47_0 := blk_frozen BK194.out 0
                          have hfz47_1 := blk_frozen BK194.out 1
                          have hcz48_0 : wr.cell? ⟨gb187, 0, none⟩ = some (.int .i64 a0_0) := (blk_cell BK187.out 0).trans rfl
                          have hcz48_1 : wr.cell? ⟨gb187, 1, none⟩ = some (.int .i64 a0_1) := (blk_cell BK187.out 1).trans rfl
                          have hcz48_2 : wr.cell? ⟨gb187, 2, none⟩ = some (.int .i64 a0_2) := (blk_cell BK187.out 2).trans rfl
                          have hfz48_0 := blk_frozen BK187.out 0
                          have hfz48_1 := blk_frozen BK187.out 1
                          have hfz48_2 := blk_frozen BK187.out 2
                          go_wp2
                          go_ret
                          exact ⟨by first | rfl | (simp [errW_none, errW_some] <;> rfl) | (simp only [← hji28, ← hji29]; first | rfl | (simp [errW_none, errW_some] <;> rfl)) | (simp [*, errW_none, errW_some] <;> rfl), by repeat (first | (with_reducible first | exact HB.out | apply below_alloc | apply pw_below_drewN | apply below_drew1 | refine below_set ?_ GE187.out | refine below_set ?_ GE194.out) | exact HB.out)⟩
                        · rw [if_neg c44] at H
                          have c44b0 : (a0_0 == 0) = false := beq_eq_false_iff_ne.mpr c44
                          have c44b1 : (a0_0 != 0) = true := bne_iff_ne.mpr c44
                          obtain rfl := Option.some.inj H
                          obtain ⟨Ao49, co49, eo49⟩ := Kd.R_slice HO_9.out
                          subst eo49
                          have hnb50 := NB194_187.out
                          have hnc50 := NB187_194.out
                          have hcz51_0 : wr.cell? ⟨gb194, 0, none⟩ = some (.int .i64 t189) := (blk_cell BK194.out 0).trans rfl
                          have hcz51_1 : wr.cell? ⟨gb194, 1, none⟩ = some (.int .i64 t190) := (blk_cell BK194.out 1).trans rfl
                          have hfz51_0 := blk_frozen BK194.out 0
                          have hfz51_1 := blk_frozen BK194.out 1
                          have hcz52_0 : wr.cell? ⟨gb187, 0, none⟩ = some (.int .i64 a0_0) := (blk_cell BK187.out 0).trans rfl
                          have hcz52_1 : wr.cell? ⟨gb187, 1, none⟩ = some (.int .i64 a0_1) := (blk_cell BK187.out 1).trans rfl
                          have hcz52_2 : wr.cell? ⟨gb187, 2, none⟩ = some (.int .i64 a0_2) := (blk_cell BK187.out 2).trans rfl
                          have hfz52_0 := blk_frozen BK187.out 0
                          have hfz52_1 := blk_frozen BK187.out 1
                          have hfz52_2 := blk_frozen BK187.out 2
                          go_wp2
                          go_ret
                          exact ⟨by first | rfl | (simp [errW_none, errW_some] <;> rfl) | (simp only [← hji28, ← hji29]; first | rfl | (simp [errW_none, errW_some] <;> rfl)) | (simp [*, errW_none, errW_some] <;> rfl), by repeat (first | (with_reducible first | exact HB.out | apply below_alloc | apply pw_below_drewN | apply below_drew1 | refine below_set ?_ GE187.out | refine below_set ?_ GE194.out) | exact HB.out)⟩
                      · rw [if_neg c43] at H
                        have c43b0 : (t189 == 6) = false := beq_eq_false_iff_ne.mpr c43
                        have c43b1 : (t189 != 6) = true := bne_iff_ne.mpr c43
                        obtain rfl := Option.some.inj H
                        obtain ⟨Ao53, co53, eo53⟩ := Kd.R_slice HO_9.out
                        subst eo53
                        have hnb54 := NB194_187.out
                        have hnc54 := NB187_194.out
                        have hcz55_0 : wr.cell? ⟨gb194, 0, none⟩ = some (.int .i64 t189) := (blk_cell BK194.out 0).trans rfl
                        have hcz55_1 : wr.cell? ⟨gb194, 1, none⟩ = some (.int .i64 t190) := (blk_cell BK194.out 1).trans rfl
                        have hfz55_0 := blk_frozen BK194.out 0
                        have hfz55_1 := blk_frozen BK194.out 1
                        have hcz56_0 : wr.cell? ⟨gb187, 0, none⟩ = some (.int .i64 a0_0) := (blk_cell BK187.out 0).trans rfl
                        have hcz56_1 : wr.cell? ⟨gb187, 1, none⟩ = some (.int .i64 a0_1) := (blk_cell BK187.out 1).trans rfl
                        have hcz56_2 : wr.cell? ⟨gb187, 2, none⟩ = some (.int .i64 a0_2) := (blk_cell BK187.out 2).trans rfl
                        have hfz56_0 := blk_frozen BK187.out 0
                        have hfz56_1 := blk_frozen BK187.out 1
                        have hfz56_2 := blk_frozen BK187.out 2
                        go_wp2
                        go_ret
                        exact ⟨by first | rfl | (simp [errW_none, errW_some] <;> rfl) | (simp only [← hji28, ← hji29]; first | rfl | (simp [errW_none, errW_some] <;> rfl)) | (simp [*, errW_none, errW_some] <;> rfl), by repeat (first | (with_reducible first | exact HB.out | apply below_alloc | apply pw_below_drewN | apply below_drew1 | refine below_set ?_ GE187.out | refine below_set ?_ GE194.out) | exact HB.out)⟩
                  · rw [if_neg c37] at H
                    have c37b0 : decide (t189 ≤ 6) = false := decide_eq_false c37
                    clear c37
                    obtain rfl := Option.some.inj H
                    obtain ⟨Ao57, co57, eo57⟩ := Kd.R_slice HO_9.out
                    subst eo57
                    have hnb58 := NB194_187.out
                    have hnc58 := NB187_194.out
                    have hcz59_0 : wr.cell? ⟨gb194, 0, none⟩ = some (.int .i64 t189) := (blk_cell BK194.out 0).trans rfl
                    have hcz59_1 : wr.cell? ⟨gb194, 1, none⟩ = some (.int .i64 t190) := (blk_cell BK194.out 1).trans rfl
                    have hfz59_0 := blk_frozen BK194.out 0
                    have hfz59_1 := blk_frozen BK194.out 1
                    go_wp2
                    go_ret
                    exact ⟨by first | rfl | (simp [errW_none, errW_some] <;> rfl) | (simp only [← hji28, ← hji29]; first | rfl | (simp [errW_none, errW_some] <;> rfl)) | (simp [*, errW_none, errW_some] <;> rfl), by repeat (first | (with_reducible first | exact HB.out | apply below_alloc | apply pw_below_drewN | apply below_drew1 | refine below_set ?_ GE187.out | refine below_set ?_ GE194.out) | exact HB.out)⟩
                · rw [if_neg c36] at H
                  have c36b0 : decide (1 ≤ t189) = false := decide_eq_false c36
                  clear c36
                  obtain rfl := Option.some.inj H
                  obtain ⟨Ao60, co60, eo60⟩ := Kd.R_slice HO_9.out
                  subst eo60
                  have hnb61 := NB194_187.out
                  have hnc61 := NB187_194.out
                  have hcz62_0 : wr.cell? ⟨gb194, 0, none⟩ = some (.int .i64 t189) := (blk_cell BK194.out 0).trans rfl
                  have hcz62_1 : wr.cell? ⟨gb194, 1, none⟩ = some (.int .i64 t190) := (blk_cell BK194.out 1).trans rfl
                  have hfz62_0 := blk_frozen BK194.out 0
                  have hfz62_1 := blk_frozen BK194.out 1
                  go_wp2
                  go_ret
                  exact ⟨by first | rfl | (simp [errW_none, errW_some] <;> rfl) | (simp only [← hji28, ← hji29]; first | rfl | (simp [errW_none, errW_some] <;> rfl)) | (simp [*, errW_none, errW_some] <;> rfl), by repeat (first | (with_reducible first | exact HB.out | apply below_alloc | apply pw_below_drewN | apply below_drew1 | refine below_set ?_ GE187.out | refine below_set ?_ GE194.out) | exact HB.out)⟩
            · rw [if_neg c31] at H
              have c31b0 : (t190 == 1) = false := beq_eq_false_iff_ne.mpr c31
              have c31b1 : (t190 != 1) = true := bne_iff_ne.mpr c31
              obtain rfl := Option.some.inj H
              obtain ⟨Ao63, co63, eo63⟩ := Kd.R_slice HO_9.out
              subst eo63
              have hnb64 := NB194_187.out
              have hnc64 := NB187_194.out
              have hcz65_0 : wr.cell? ⟨gb194, 0, none⟩ = some (.int .i64 t189) := (blk_cell BK194.out 0).trans rfl
              have hcz65_1 : wr.cell? ⟨gb194, 1, none⟩ = some (.int .i64 t190) := (blk_cell BK194.out 1).trans rfl
              have hfz65_0 := blk_frozen BK194.out 0
              have hfz65_1 := blk_frozen BK194.out 1
              go_wp2
              go_ret
              exact ⟨by first | rfl | (simp [errW_none, errW_some] <;> rfl) | (simp only [← hji28, ← hji29]; first | rfl | (simp [errW_none, errW_some] <;> rfl)) | (simp [*, errW_none, errW_some] <;> rfl), by repeat (first | (with_reducible first | exact HB.out | apply below_alloc | apply pw_below_drewN | apply below_drew1 | refine below_set ?_ GE187.out | refine below_set ?_ GE194.out) | exact HB.out)⟩
          · rw [if_neg c30] at H
            have c30b0 : ((t191.length : Int) == (ji29)) = false := beq_eq_false_iff_ne.mpr c30
            have c30b1 : ((t191.length : Int) != (ji29)) = true := bne_iff_ne.mpr c30
            obtain rfl := Option.some.inj H
            obtain ⟨Ao66, co66, eo66⟩ := Kd.R_slice HO_9.out
            subst eo66
            go_wp2
            go_ret
            exact ⟨by first | rfl | (simp [errW_none, errW_some] <;> rfl) | (simp only [← hji28, ← hji29]; first | rfl | (simp [errW_none, errW_some] <;> rfl)) | (simp [*, errW_none, errW_some] <;> rfl), by repeat (first | (with_reducible first | exact HB.out | apply below_alloc | apply pw_below_drewN | apply below_drew1 | refine below_set ?_ GE187.out | refine below_set ?_ GE194.out) | exact HB.out)⟩
        · replace c27 := Bool.eq_false_iff.mpr c27
          subst c27
          have H1 : (some false) = some r := by rw [if_neg (show ¬ (false = true) by decide)] at H; exact H
          clear H
          have H := H1
          clear H1
          obtain rfl := Option.some.inj H
          obtain ⟨Ao67, co67, eo67⟩ := Kd.R_slice HO_9.out
          subst eo67
          go_wp2
          go_ret
          exact ⟨by first | rfl | (simp [errW_none, errW_some] <;> rfl) | (simp [*, errW_none, errW_some] <;> rfl), by repeat (first | (with_reducible first | exact HB.out | apply below_alloc | apply pw_below_drewN | apply below_drew1 | refine below_set ?_ GE187.out | refine below_set ?_ GE194.out) | exact HB.out)⟩

end Go.Proofs.Ytnmcnailgdcmoaa.A
