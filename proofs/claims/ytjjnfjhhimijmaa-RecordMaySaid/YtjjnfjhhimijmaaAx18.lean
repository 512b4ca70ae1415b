/- Each function's own law: what the call answers, as a plain Lean function; a text that a program of this session wrote. -/
import Derived.Test.YtjjnfjhhimijmaaAx0
import Derived.Test.YtjjnfjhhimijmaaAx17
namespace Go.Proofs.Ytjjnfjhhimijmaa.A
open Go.RowKit Go.Proofs.YtjjnfjhhimijmaaW.PrintWords Go.Proofs.YtjjnfjhhimijmaaW.PrintLast Go.Proofs.YtjjnfjhhimijmaaW.PrintMore
attribute [local go_sem] max2_int min2_int max_two min_two max_three min_three max_four min_four   -- for this text's walks alone
set_option linter.unusedVariables false
set_option linter.unusedSimpArgs false

/-! ### policy_Restart: function 25 -/
mutual
def policy_Restart.j0 : Nat → Int → Int → Int → Int → Option (Int × Int × (List (S39)))
  | 0, _, _, _, _ => none
  | k + 1, x2, x280000, x280001, x280002 => if 0 ≤ (mx 0 (mn x2 8)) then (if (mx 0 (mn x2 8) : Int).toNat ≤ 3518437208883 then ((some (List.replicate (mx 0 (mn x2 8) : Int).toNat z39 : List (S39))).bind fun y281 => (policy_Restart.l0 k y281 (y281.length : Int) 0 x280000 x280001 x280002)) else (none)) else (none)
def policy_Restart.l0 : Nat → List (S39) → Int → Int → Int → Int → Int → Option (Int × Int × (List (S39)))
  | 0, _, _, _, _, _, _ => none
  | k + 1, x8, x18, x19, x280000, x280001, x280002 => if x19 < x18 then ((policy_set.f x280001 x19).bind fun t284 => ((policy_set.f x280002 x19).bind fun t285 => (if 0 ≤ x19 then (if x19 < (x8.length : Int) then ((some (x8.set (x19 : Int).toNat (⟨(⟨(rd_T39 x8 x19).f0.f0, (rd_T39 x8 x19).f0.f1, (rd_T39 x8 x19).f0.f2, t284⟩ : S35), (⟨(rd_T39 x8 x19).f1.f0, (rd_T39 x8 x19).f1.f1, (rd_T39 x8 x19).f1.f2⟩ : S37), (rd_T39 x8 x19).f2, (rd_T39 x8 x19).f3, (rd_T39 x8 x19).f4, (rd_T39 x8 x19).f5⟩ : S39) : List (S39))).bind fun y286 => (policy_Restart.l0 k (y286.set (x19 : Int).toNat (⟨(⟨(rd_T39 y286 x19).f0.f0, (rd_T39 y286 x19).f0.f1, (rd_T39 y286 x19).f0.f2, (rd_T39 y286 x19).f0.f3⟩ : S35), (⟨(rd_T39 y286 x19).f1.f0, (rd_T39 y286 x19).f1.f1, t285⟩ : S37), (rd_T39 y286 x19).f2, (rd_T39 y286 x19).f3, (rd_T39 y286 x19).f4, (rd_T39 y286 x19).f5⟩ : S39)) x18 (wrap64 (x19 + 1)) x280000 x280001 x280002)) else (none)) else (none)))) else (if x280000 < 0 then ((phase_Enter.f 3).bind fun bt288 => (some (bt288.1, bt288.2, x8))) else (if x280000 ≥ 7 then ((phase_Enter.f 3).bind fun bt290 => (some (bt290.1, bt290.2, x8))) else (if x280000 = 0 then ((phase_Enter.f 6).bind fun bt292 => (some (bt292.1, bt292.2, x8))) else ((phase_Enter.f x280000).bind fun bt294 => (some (bt294.1, bt294.2, x8))))))
end
def policy_Restart.f (k : Nat) (a0_0 : Int) (a0_1 : Int) (a0_2 : Int) (a1 : Bool) (a2 : Int) : Option (Int × Int × (List (S39))) := if a1 = true then (policy_Restart.j0 k a2 a0_0 a0_1 a0_2) else (policy_Restart.j0 k a2 7 0 0)
theorem policy_Restart.mono_l : ∀ k, (∀ y0 y1 y2 y3, LeO (policy_Restart.j0 k y0 y1 y2 y3) (policy_Restart.j0 (k + 1) y0 y1 y2 y3)) ∧ (∀ y0 y1 y2 y3 y4 y5, LeO (policy_Restart.l0 k y0 y1 y2 y3 y4 y5) (policy_Restart.l0 (k + 1) y0 y1 y2 y3 y4 y5))
  | 0 => ⟨fun _ _ _ _ r h => by simp [policy_Restart.j0] at h, fun _ _ _ _ _ _ r h => by simp [policy_Restart.l0] at h⟩
  | k + 1 => by
    obtain ⟨ih0, ih1⟩ := policy_Restart.mono_l k
    refine ⟨?_, ?_⟩
    · intro y0 y1 y2 y3
      unfold policy_Restart.j0
      repeat' first
      | (with_reducible exact ih0 _ _ _ _)
      | (with_reducible exact ih1 _ _ _ _ _ _)
      | (with_reducible exact LeO.refl _)
      | (with_reducible exact LeO.none _)
      | (with_reducible refine LeO.ite ?_ ?_)
      | (with_reducible refine LeO.bind ?_ (fun _ => ?_))
      | exact ih0 _ _ _ _
      | exact ih1 _ _ _ _ _ _
      | exact LeO.none _
      | refine LeO.ite ?_ ?_
      | refine LeO.bind ?_ (fun _ => ?_)
    · intro y0 y1 y2 y3 y4 y5
      unfold policy_Restart.l0
      repeat' first
      | (with_reducible exact ih0 _ _ _ _)
      | (with_reducible exact ih1 _ _ _ _ _ _)
      | (with_reducible exact LeO.refl _)
      | (with_reducible exact LeO.none _)
      | (with_reducible refine LeO.ite ?_ ?_)
      | (with_reducible refine LeO.bind ?_ (fun _ => ?_))
      | exact ih0 _ _ _ _
      | exact ih1 _ _ _ _ _ _
      | exact LeO.none _
      | refine LeO.ite ?_ ?_
      | refine LeO.bind ?_ (fun _ => ?_)
theorem policy_Restart.mono : ∀ a0 a1 a2 a3 a4 k, LeO (policy_Restart.f k a0 a1 a2 a3 a4) (policy_Restart.f (k + 1) a0 a1 a2 a3 a4) := by
  intro a0 a1 a2 a3 a4 k
  obtain ⟨ih0, ih1⟩ := policy_Restart.mono_l k
  unfold policy_Restart.f
  repeat' first
      | (with_reducible exact ih0 _ _ _ _)
      | (with_reducible exact ih1 _ _ _ _ _ _)
      | (with_reducible exact LeO.refl _)
      | (with_reducible exact LeO.none _)
      | (with_reducible refine LeO.ite ?_ ?_)
      | (with_reducible refine LeO.bind ?_ (fun _ => ?_))
      | exact ih0 _ _ _ _
      | exact ih1 _ _ _ _ _ _
      | exact LeO.none _
      | refine LeO.ite ?_ ?_
      | refine LeO.bind ?_ (fun _ => ?_)
def policy_Restart.T7 : Bool × List (List Nat × List Nat) := (true, [([], []), ([], []), ([], []), ([], []), ([], []), ([4], [4]), ([], []), ([5, 6], [5, 6]), ([], []), ([8], [8]), ([], []), ([9, 10, 7], [9, 10]), ([0, 1, 0, 1, 4, 5, 6, 7, 11], [0, 1]), ([12, 0, 1, 4, 5, 6, 7, 11], [12]), ([13, 0, 1, 4, 5, 6, 7, 11], [13]), ([14, 7, 11, 0, 1, 4, 5, 6, 7, 11], [7, 14]), ([2, 3, 0, 1, 2, 3, 4, 5, 6, 7, 8, 9, 10, 11, 12, 13, 14, 15], [2, 3]), ([16, 0, 1, 2, 3, 4, 5, 6, 7, 8, 9, 10, 11, 12, 13, 14, 15], [16]), ([17, 0, 1, 2, 3, 4, 5, 6, 7, 8, 9, 10, 11, 12, 13, 14, 15], [17]), ([18, 11, 15, 0, 1, 2, 3, 4, 5, 6, 7, 8, 9, 10, 11, 12, 13, 14, 15], [11, 18])])
def policy_Restart.B7 : List Nat := [0, 0, 0, 0, 0, 16, 0, 112, 0, 256, 0, 2032, 4083, 8179, 16371, 32755, 65535, 131071, 262143, 524287]
theorem policy_Restart.tab7 : rtab .any (opsOf Try.f25 7) = policy_Restart.T7 := by kernel_rfl
theorem policy_Restart.bits7 : waitsOk policy_Restart.T7.2 policy_Restart.B7 = true := by kernel_rfl
set_option maxHeartbeats 8000000 in
set_option maxRecDepth 100000 in
theorem policy_Restart.calls (k : Nat) (a0_0 : Int) (a0_1 : Int) (a0_2 : Int) (a1 : Bool) (a2 : Int) (r1 : Int) (r2 : Int) (r3 : List (S39)) (w : World) (h : policy_Restart.f k a0_0 a0_1 a0_2 a1 a2 = some (r1, r2, r3)) :
    Calls Try.prog 25 #[.agg #[.int .i64 a0_0, .int .i64 a0_1, .int .i64 a0_2], .bool a1, .int .i64 a2] w fun e w' => ∃ v2_ : Value, e = .returned (.tuple #[.agg #[.int .i64 r1, .int .i64 r2], v2_]) ∧ Kd.R k39 39 w' w.heap.size (fun _ => True) v2_ r3 ∧ Below w.heap.size w w' := by
  have hu46 := Try.underlying46
  have hu44 := Try.underlying44
  have HB := Aside0.mk (Below.refl w.heap.size w)
  have H : (if a1 = true then (policy_Restart.j0 k a2 a0_0 a0_1 a0_2) else (policy_Restart.j0 k a2 7 0 0)) = some (r1, r2, r3) := h
  clear h
  have HC4 := Aside0.mk H
  clear H
  go_enter Try.func25, Try.ntmps25
  go_upto_if 11 with (first | ((with_reducible refine gate_dst (N := 3) rfl ?_); refine box_event ?hg (N := 3) ?hd (cs := #[.int .i64 a0_0, .int .i64 a0_1, .int .i64 a0_2]) (t := 46) ?hr ?_; (case hd => rfl); (case hg => rfl); (case hr => first | (go_simp; done) | (go_simp; rfl)); intro gb279 hg w5 hbox hb; have n0_ := Aside0.mk (below_step (by repeat (first | (with_reducible first | exact HB.out | apply below_alloc | apply pw_below_drewN | apply below_drew1) | exact HB.out)) hb); have n1_ := Aside0.mk (hbox); have n2_ := Aside0.mk ((by rw [hg]; exact (below_size (by repeat (first | (with_reducible first | exact HB.out | apply below_alloc | apply pw_below_drewN | apply below_drew1) | exact HB.out))) : w.heap.size ≤ gb279)); have n3_ := Aside0.mk ((by rw [hg]; exact (below_size (by repeat (first | (with_reducible first | exact HB.out | apply below_alloc | apply pw_below_drewN | apply below_drew1) | exact HB.out))) : w.heap.size ≤ gb279)); clear HB; have HB := n0_; have BK279 := n1_; have GW279 := n2_; have GE279 := n3_; clear n0_ n1_ n2_ n3_; clear hb hbox hg) | ((with_reducible refine gate_dst (N := 6) rfl ?_); refine box_event ?hg (N := 6) ?hd (cs := #[.int .i64 0, .int .i64 0]) (t := 44) ?hr ?_; (case hd => rfl); (case hg => rfl); (case hr => first | (go_simp; done) | (go_simp; rfl)); intro gb280 hg w6 hbox hb; have n0_ := Aside0.mk (blk_below (g := gb279) (o := .cells #[.int .i64 a0_0, .int .i64 a0_1, .int .i64 a0_2] 46 (0, 0)) (by (with_reducible repeat (first | refine blk_drewN ?_ _ | refine blk_drew ?_ | refine blk_alloc ?_ _)); exact BK279.out) hb); have n1_ := Aside0.mk (below_step (by repeat (first | (with_reducible first | exact HB.out | apply below_alloc | apply pw_below_drewN | apply below_drew1 | refine below_set ?_ GE279.out) | exact HB.out)) hb); have n2_ := Aside0.mk (hbox); have n3_ := Aside0.mk ((by rw [hg]; exact (below_size (by repeat (first | (with_reducible first | exact HB.out | apply below_alloc | apply pw_below_drewN | apply below_drew1 | refine below_set ?_ GE279.out) | exact HB.out))) : w.heap.size ≤ gb280)); have n4_ := Aside0.mk ((by rw [hg]; exact (below_size (by repeat (first | (with_reducible first | exact HB.out | apply below_alloc | apply pw_below_drewN | apply below_drew1 | refine below_set ?_ GE279.out) | exact HB.out))) : w.heap.size ≤ gb280)); have n5_ := Aside0.mk ((by rw [hg]; exact Nat.ne_of_lt (blk_lt (g := gb279) (o := .cells #[.int .i64 a0_0, .int .i64 a0_1, .int .i64 a0_2] 46 (0, 0)) (by (with_reducible repeat (first | refine blk_drewN ?_ _ | refine blk_drew ?_ | refine blk_alloc ?_ _)); exact BK279.out)) : gb279 ≠ gb280)); have n6_ := Aside0.mk ((by rw [hg]; exact Nat.ne_of_gt (blk_lt (g := gb279) (o := .cells #[.int .i64 a0_0, .int .i64 a0_1, .int .i64 a0_2] 46 (0, 0)) (by (with_reducible repeat (first | refine blk_drewN ?_ _ | refine blk_drew ?_ | refine blk_alloc ?_ _)); exact BK279.out)) : gb280 ≠ gb279)); clear BK279; clear HB; have BK279 := n0_; have HB := n1_; have BK280 := n2_; have GW280 := n3_; have GE280 := n4_; have NB279_280 := n5_; have NB280_279 := n6_; clear n0_ n1_ n2_ n3_ n4_ n5_ n6_; clear hb hbox hg))
  (try simp only [Act.put, List.setIfInBounds_toArray, List.set_cons_zero, List.set_cons_succ])
  go_cut [] (fun wc => ∃ (kq : Nat) (x280000_3 : Int) (x280001_3 : Int) (x280002_3 : Int), Aside0 (policy_Restart.j0 kq a2 x280000_3 x280001_3 x280002_3 = some (r1, r2, r3)) ∧ Aside0 (kq ≤ k) ∧ Aside0 (wc.heap[gb279]? = some (.cells #[.int .i64 x280000_3, .int .i64 x280001_3, .int .i64 x280002_3] 46 (0, 0))) ∧ Aside0 (wc.heap[gb280]? = some (.cells #[.int .i64 0, .int .i64 0] 44 (0, 0))) ∧ Aside0 (Below w.heap.size w wc))
  case first =>
    have H := HC4.out
    clear HC4
    by_cases c7 : a1 = true
    · subst c7
      have H1 : (policy_Restart.j0 k a2 a0_0 a0_1 a0_2) = some (r1, r2, r3) := by rw [if_pos rfl] at H; exact H
      clear H
      have H := H1
      clear H1
      have H' := Aside0.mk H
      clear H
      go_wp2
      go_meet
      case rel => exact ⟨_, (a0_0), (a0_1), (a0_2), H', ⟨by first | omega | exact Nat.le_refl _⟩, ⟨by (with_reducible repeat (first | refine blk_drewN ?_ _ | refine blk_drew ?_ | refine blk_alloc ?_ _)); exact BK279.out⟩, ⟨by (with_reducible repeat (first | refine blk_drewN ?_ _ | refine blk_drew ?_ | refine blk_alloc ?_ _)); exact BK280.out⟩, ⟨by repeat (first | (with_reducible first | exact HB.out | apply below_alloc | apply pw_below_drewN | apply below_drew1 | refine below_set ?_ GE279.out | refine below_set ?_ GE280.out) | exact HB.out)⟩⟩
    · replace c7 := Bool.eq_false_iff.mpr c7
      subst c7
      have H1 : (policy_Restart.j0 k a2 7 0 0) = some (r1, r2, r3) := by rw [if_neg (show ¬ (false = true) by decide)] at H; exact H
      clear H
      have H := H1
      clear H1
      have H' := Aside0.mk H
      clear H
      have hnb8 := NB279_280.out
      have hnc8 := NB280_279.out
      have hcz9_0 : w6.cell? ⟨gb279, 0, none⟩ = some (.int .i64 a0_0) := (blk_cell BK279.out 0).trans rfl
      have hcz9_1 : w6.cell? ⟨gb279, 1, none⟩ = some (.int .i64 a0_1) := (blk_cell BK279.out 1).trans rfl
      have hcz9_2 : w6.cell? ⟨gb279, 2, none⟩ = some (.int .i64 a0_2) := (blk_cell BK279.out 2).trans rfl
      have hfz9_0 := blk_frozen BK279.out 0
      have hfz9_1 := blk_frozen BK279.out 1
      have hfz9_2 := blk_frozen BK279.out 2
      go_wp2
      go_meet
      case rel => exact ⟨_, (7), (0), (0), H', ⟨by first | omega | exact Nat.le_refl _⟩, ⟨by (with_reducible repeat (first | refine blk_drewN ?_ _ | refine blk_drew ?_ | refine blk_alloc ?_ _)); refine blk_put (cs := #[.int .i64 7, .int .i64 0, .int .i64 a0_2]) ?_ 2 _ rfl; (with_reducible repeat (first | refine blk_drewN ?_ _ | refine blk_drew ?_ | refine blk_alloc ?_ _)); refine blk_put (cs := #[.int .i64 7, .int .i64 a0_1, .int .i64 a0_2]) ?_ 1 _ rfl; (with_reducible repeat (first | refine blk_drewN ?_ _ | refine blk_drew ?_ | refine blk_alloc ?_ _)); refine blk_put (cs := #[.int .i64 a0_0, .int .i64 a0_1, .int .i64 a0_2]) ?_ 0 _ rfl; (with_reducible repeat (first | refine blk_drewN ?_ _ | refine blk_drew ?_ | refine blk_alloc ?_ _)); exact BK279.out⟩, ⟨by (with_reducible repeat (first | refine blk_drewN ?_ _ | refine blk_drew ?_ | refine blk_alloc ?_ _)); refine blk_far ?_ NB280_279.out _; (with_reducible repeat (first | refine blk_drewN ?_ _ | refine blk_drew ?_ | refine blk_alloc ?_ _)); refine blk_far ?_ NB280_279.out _; (with_reducible repeat (first | refine blk_drewN ?_ _ | refine blk_drew ?_ | refine blk_alloc ?_ _)); refine blk_far ?_ NB280_279.out _; (with_reducible repeat (first | refine blk_drewN ?_ _ | refine blk_drew ?_ | refine blk_alloc ?_ _)); exact BK280.out⟩, ⟨by repeat (first | (with_reducible first | exact HB.out | apply below_alloc | apply pw_below_drewN | apply below_drew1 | refine below_set ?_ GE279.out | refine below_set ?_ GE280.out) | exact HB.out)⟩⟩
  case rest =>
    clear HC4
    try clear c2
    try clear p2
    try clear c7
    try clear c8
    try clear hcz9_0
    try clear hcz9_1
    try clear hcz9_2
    try clear hfz9_0
    try clear hfz9_1
    try clear hfz9_2
    obtain ⟨kq, x280000_3, x280001_3, x280002_3, HA, HJ3, BK279, BK280, HB⟩ := hcut
    cases kq with
    | zero => exact absurd HA.out (by simp [policy_Restart.j0])
    | succ kj3 =>
      have H := HA.out
      clear HA
      simp only [policy_Restart.j0] at H
      obtain ⟨ji10, hji10⟩ : ∃ j_ : Int, (mn a2 8) = j_ := ⟨_, rfl⟩
      replace H : (if 0 ≤ (mx 0 (ji10)) then (if (mx 0 (ji10) : Int).toNat ≤ 3518437208883 then ((some (List.replicate (mx 0 (ji10) : Int).toNat z39 : List (S39))).bind fun y281 => (policy_Restart.l0 kj3 y281 (y281.length : Int) 0 x280000_3 x280001_3 x280002_3)) else (none)) else (none)) = some (r1, r2, r3) := by first | (rw [hji10] at H; exact H) | (simp only [hji10] at H ⊢; exact H)
      have hji10_ : (if 8 < a2 then 8 else a2) = ji10 := hji10
      obtain ⟨ji11, hji11⟩ : ∃ j_ : Int, (mx 0 (ji10)) = j_ := ⟨_, rfl⟩
      replace H : (if 0 ≤ (ji11) then (if (ji11 : Int).toNat ≤ 3518437208883 then ((some (List.replicate (ji11 : Int).toNat z39 : List (S39))).bind fun y281 => (policy_Restart.l0 kj3 y281 (y281.length : Int) 0 x280000_3 x280001_3 x280002_3)) else (none)) else (none)) = some (r1, r2, r3) := by first | (rw [hji11] at H; exact H) | (simp only [hji11] at H ⊢; exact H)
      have hji11_ : (if 0 < (ji10) then (ji10) else 0) = ji11 := hji11
      by_cases c12 : 0 ≤ (ji11)
      · rw [if_pos c12] at H
        have c12b0 := eq_true c12
        have c12b1 : decide (0 ≤ (ji11)) = true := decide_eq_true c12
        clear c12
        by_cases c13 : (ji11 : Int).toNat ≤ 3518437208883
        · rw [if_pos c13] at H
          have c13b0 := eq_true c13
          have c13b1 : decide ((ji11 : Int).toNat ≤ 3518437208883) = true := decide_eq_true c13
          clear c13
          obtain ⟨y281, hy281⟩ : ∃ y_ : List (S39), y_ = (List.replicate (ji11 : Int).toNat z39) := ⟨_, rfl⟩
          replace H : (policy_Restart.l0 kj3 y281 (y281.length : Int) 0 x280000_3 x280001_3 x280002_3) = some (r1, r2, r3) := by first | (rw [hy281]; with_reducible exact H) | (have H2_ := (Option.bind_some _ _).symm.trans H; rw [hy281]; with_reducible exact H2_) | (have H2_ := (Option.bind_some _ _).symm.trans H; with_reducible exact H2_) | with_reducible exact H | (rw [hy281]; exact H) | exact H
          have Ny281 := Aside0.mk hy281
          clear hy281
          have H' := Aside0.mk H
          clear H
          go_wp2_with (first | ((with_reducible refine gate_dst (N := 16) rfl ?_); refine Kd.R_make k39 _ 39 rfl (N := 16) rfl 27 _ _ rfl ji11 rfl rfl Try.underlying27 (.agg #[(.bool false), (.int .i64 0), (.int .i64 0), (.bool false), (.int .i64 0), (.int .i64 0), (.bool false), (.bool false), (.int .i64 0), (.bool false), (.bool false)]) 80 info39 rfl (by decide) (by omega) z39 (ok := fun _ => True) (okp := fun _ => True) (k39_mkM _ _ _ z39 ) (fun _ hk => hk) trivial (of_decide_eq_true (by first | (with_reducible assumption) | assumption)) (Nat.le_trans (Nat.mul_le_mul_right _ (of_decide_eq_true (by first | (with_reducible assumption) | assumption) : ji11.toNat ≤ 3518437208883)) (by omega)) (Below.refl _ _) (Nat.le_refl _) ?_; intro v282 w14 ho15 hb hg_ hnew_; clear hg_ hnew_; (first | rw [← Ny281.out] at ho15 | (simp only [Int.reduceToNat] at ho15; rw [← Ny281.out] at ho15)); have n0_ := Aside0.mk (Kd.R_lower ho15 (below_size (by repeat (first | (with_reducible first | exact HB.out | apply below_alloc | apply pw_below_drewN | apply below_drew1 | refine below_set ?_ GE279.out | refine below_set ?_ GE280.out) | exact HB.out)))); have n1_ := Aside0.mk (blk_below (g := gb279) (o := .cells #[.int .i64 x280000_3, .int .i64 x280001_3, .int .i64 x280002_3] 46 (0, 0)) (by (with_reducible repeat (first | refine blk_drewN ?_ _ | refine blk_drew ?_ | refine blk_alloc ?_ _)); exact BK279.out) hb); have n2_ := Aside0.mk (blk_below (g := gb280) (o := .cells #[.int .i64 0, .int .i64 0] 44 (0, 0)) (by (with_reducible repeat (first | refine blk_drewN ?_ _ | refine blk_drew ?_ | refine blk_alloc ?_ _)); exact BK280.out) hb); have n3_ := Aside0.mk (below_step (by repeat (first | (with_reducible first | exact HB.out | apply below_alloc | apply pw_below_drewN | apply below_drew1 | refine below_set ?_ GE279.out | refine below_set ?_ GE280.out) | exact HB.out)) hb); clear BK279; clear BK280; clear HB; have HO283 := n0_; have BK279 := n1_; have BK280 := n2_; have HB := n3_; clear n0_ n1_ n2_ n3_; clear hb ho15; obtain ⟨Ao16, co16, eo16⟩ := Kd.R_slice HO283.out; subst eo16))
          go_loopg [19] kj3 (fun kq v19 w' => ∃ (x8_2 : List (S39)) (x19_2 : Int), v19 = .int .i64 x19_2 ∧ Aside0 (policy_Restart.l0 kq x8_2 (y281.length : Int) x19_2 x280000_3 x280001_3 x280002_3 = some (r1, r2, r3)) ∧ Aside0 (kq ≤ kj3) ∧ Aside0 (Kd.R k39 39 w' w.heap.size (fun _ => True) (.slice Ao16 y281.length co16) x8_2) ∧ Aside0 (w'.heap[gb279]? = some (.cells #[.int .i64 x280000_3, .int .i64 x280001_3, .int .i64 x280002_3] 46 (0, 0))) ∧ Aside0 (w'.heap[gb280]? = some (.cells #[.int .i64 0, .int .i64 0] 44 (0, 0))) ∧ Aside0 (Below w.heap.size w w'))
          case atStart => exact ⟨(y281), (0), (by first | rfl | (simp; done) | (simp [*]; done)), H', ⟨Nat.le_refl _⟩, ⟨by (with_reducible repeat (first | apply Kd.R_alloc | apply Kd.R_drewN | apply Kd.R_drew)); exact HO283.out⟩, ⟨by (with_reducible repeat (first | refine blk_drewN ?_ _ | refine blk_drew ?_ | refine blk_alloc ?_ _)); exact BK279.out⟩, ⟨by (with_reducible repeat (first | refine blk_drewN ?_ _ | refine blk_drew ?_ | refine blk_alloc ?_ _)); exact BK280.out⟩, ⟨by repeat (first | (with_reducible first | exact HB.out | apply below_alloc | apply pw_below_drewN | apply below_drew1 | refine below_set ?_ GE279.out | refine below_set ?_ GE280.out) | exact HB.out)⟩⟩
          case round =>
            clear H'
            try clear c1
            try clear c2
            try clear p2
            try clear c7
            try clear c8
            try clear c12
            try clear c12b0
            try clear c12b1
            try clear c13
            try clear c13b0
            try clear c13b1
            try clear hcz9_0
            try clear hcz9_1
            try clear hcz9_2
            try clear hfz9_0
            try clear hfz9_1
            try clear hfz9_2
            try clear p2
            obtain ⟨x8_2, x19_2, rfl, HA, HK2, HO_8, BK279, BK280, HB⟩ := hrel
            have hl8_2 := (Kd.R_reads' HO_8.out).1
            rw [hl8_2] at HO_8
            (try simp only [hl8_2])
            (try simp only [hl8_2] at BK279)
            (try simp only [hl8_2] at BK280)
            cases gk with
            | zero => exact absurd HA.out (by simp [policy_Restart.l0])
            | succ k2 =>
              have H := HA.out
              clear HA
              simp only [policy_Restart.l0] at H
              by_cases c17 : x19_2 < (y281.length : Int)
              · rw [if_pos c17] at H
                have c17b0 : decide (x19_2 < (y281.length : Int)) = true := decide_eq_true c17
                clear c17
                replace H := Option.bind_eq_some_iff.mp H
                obtain ⟨t284, A180, H⟩ := H
                replace H : ((policy_set.f x280002_3 x19_2).bind fun t285 => (if 0 ≤ x19_2 then (if x19_2 < (x8_2.length : Int) then ((some (x8_2.set (x19_2 : Int).toNat (⟨(⟨(rd_T39 x8_2 x19_2).f0.f0, (rd_T39 x8_2 x19_2).f0.f1, (rd_T39 x8_2 x19_2).f0.f2, t284⟩ : S35), (⟨(rd_T39 x8_2 x19_2).f1.f0, (rd_T39 x8_2 x19_2).f1.f1, (rd_T39 x8_2 x19_2).f1.f2⟩ : S37), (rd_T39 x8_2 x19_2).f2, (rd_T39 x8_2 x19_2).f3, (rd_T39 x8_2 x19_2).f4, (rd_T39 x8_2 x19_2).f5⟩ : S39) : List (S39))).bind fun y286 => (policy_Restart.l0 k2 (y286.set (x19_2 : Int).toNat (⟨(⟨(rd_T39 y286 x19_2).f0.f0, (rd_T39 y286 x19_2).f0.f1, (rd_T39 y286 x19_2).f0.f2, (rd_T39 y286 x19_2).f0.f3⟩ : S35), (⟨(rd_T39 y286 x19_2).f1.f0, (rd_T39 y286 x19_2).f1.f1, t285⟩ : S37), (rd_T39 y286 x19_2).f2, (rd_T39 y286 x19_2).f3, (rd_T39 y286 x19_2).f4, (rd_T39 y286 x19_2).f5⟩ : S39)) (y281.length : Int) (wrap64 (x19_2 + 1)) x280000_3 x280001_3 x280002_3)) else (none)) else (none))) = some (r1, r2, r3) := H
                have A18 := Aside0.mk A180
                clear A180
                replace H := Option.bind_eq_some_iff.mp H
                obtain ⟨t285, A190, H⟩ := H
                replace H : (if 0 ≤ x19_2 then (if x19_2 < (x8_2.length : Int) then ((some (x8_2.set (x19_2 : Int).toNat (⟨(⟨(rd_T39 x8_2 x19_2).f0.f0, (rd_T39 x8_2 x19_2).f0.f1, (rd_T39 x8_2 x19_2).f0.f2, t284⟩ : S35), (⟨(rd_T39 x8_2 x19_2).f1.f0, (rd_T39 x8_2 x19_2).f1.f1, (rd_T39 x8_2 x19_2).f1.f2⟩ : S37), (rd_T39 x8_2 x19_2).f2, (rd_T39 x8_2 x19_2).f3, (rd_T39 x8_2 x19_2).f4, (rd_T39 x8_2 x19_2).f5⟩ : S39) : List (S39))).bind fun y286 => (policy_Restart.l0 k2 (y286.set (x19_2 : Int).toNat (⟨(⟨(rd_T39 y286 x19_2).f0.f0, (rd_T39 y286 x19_2).f0.f1, (rd_T39 y286 x19_2).f0.f2, (rd_T39 y286 x19_2).f0.f3⟩ : S35), (⟨(rd_T39 y286 x19_2).f1.f0, (rd_T39 y286 x19_2).f1.f1, t285⟩ : S37), (rd_T39 y286 x19_2).f2, (rd_T39 y286 x19_2).f3, (rd_T39 y286 x19_2).f4, (rd_T39 y286 x19_2).f5⟩ : S39)) (y281.length : Int) (wrap64 (x19_2 + 1)) x280000_3 x280001_3 x280002_3)) else (none)) else (none)) = some (r1, r2, r3) := H
                have A19 := Aside0.mk A190
                clear A190
                by_cases c20 : 0 ≤ x19_2
                · rw [if_pos c20] at H
                  have c20b0 : decide (0 ≤ x19_2) = true := decide_eq_true c20
                  clear c20
                  by_cases c21 : x19_2 < (x8_2.length : Int)
                  · rw [if_pos c21] at H
                    have c21b0 : decide (x19_2 < (x8_2.length : Int)) = true := decide_eq_true c21
                    clear c21
                    obtain ⟨y286, hy286⟩ : ∃ y_ : List (S39), y_ = (x8_2.set (x19_2 : Int).toNat (⟨(⟨(rd_T39 x8_2 x19_2).f0.f0, (rd_T39 x8_2 x19_2).f0.f1, (rd_T39 x8_2 x19_2).f0.f2, t284⟩ : S35), (⟨(rd_T39 x8_2 x19_2).f1.f0, (rd_T39 x8_2 x19_2).f1.f1, (rd_T39 x8_2 x19_2).f1.f2⟩ : S37), (rd_T39 x8_2 x19_2).f2, (rd_T39 x8_2 x19_2).f3, (rd_T39 x8_2 x19_2).f4, (rd_T39 x8_2 x19_2).f5⟩ : S39)) := ⟨_, rfl⟩
                    replace H : (policy_Restart.l0 k2 (y286.set (x19_2 : Int).toNat (⟨(⟨(rd_T39 y286 x19_2).f0.f0, (rd_T39 y286 x19_2).f0.f1, (rd_T39 y286 x19_2).f0.f2, (rd_T39 y286 x19_2).f0.f3⟩ : S35), (⟨(rd_T39 y286 x19_2).f1.f0, (rd_T39 y286 x19_2).f1.f1, t285⟩ : S37), (rd_T39 y286 x19_2).f2, (rd_T39 y286 x19_2).f3, (rd_T39 y286 x19_2).f4, (rd_T39 y286 x19_2).f5⟩ : S39)) (y281.length : Int) (wrap64 (x19_2 + 1)) x280000_3 x280001_3 x280002_3) = some (r1, r2, r3) := by first | (rw [hy286]; with_reducible exact H) | (have H2_ := (Option.bind_some _ _).symm.trans H; rw [hy286]; with_reducible exact H2_) | (have H2_ := (Option.bind_some _ _).symm.trans H; with_reducible exact H2_) | with_reducible exact H | (rw [hy286]; exact H) | exact H
                    have Ny286 := Aside0.mk hy286
                    clear hy286
                    obtain ⟨y287, hy287⟩ : ∃ y_ : List (S39), y_ = (y286.set (x19_2 : Int).toNat (⟨(⟨(rd_T39 y286 x19_2).f0.f0, (rd_T39 y286 x19_2).f0.f1, (rd_T39 y286 x19_2).f0.f2, (rd_T39 y286 x19_2).f0.f3⟩ : S35), (⟨(rd_T39 y286 x19_2).f1.f0, (rd_T39 y286 x19_2).f1.f1, t285⟩ : S37), (rd_T39 y286 x19_2).f2, (rd_T39 y286 x19_2).f3, (rd_T39 y286 x19_2).f4, (rd_T39 y286 x19_2).f5⟩ : S39)) := ⟨_, rfl⟩
                    replace H : (policy_Restart.l0 k2 y287 (y281.length : Int) (wrap64 (x19_2 + 1)) x280000_3 x280001_3 x280002_3) = some (r1, r2, r3) := by first | (rw [hy287]; with_reducible exact H) | (have H2_ := (Option.bind_some _ _).symm.trans H; rw [hy287]; with_reducible exact H2_) | (have H2_ := (Option.bind_some _ _).symm.trans H; with_reducible exact H2_) | with_reducible exact H | (rw [hy287]; exact H) | exact H
                    have Ny287 := Aside0.mk hy287
                    clear hy287
                    have H' := Aside0.mk H
                    clear H
                    try go_wp2
                    have n0_ := Aside0.mk (Kd.R_drew HO_8.out)
                    have n1_ := Aside0.mk (blk_drew BK279.out)
                    have n2_ := Aside0.mk (blk_drew BK280.out)
                    have n3_ := Aside0.mk (below_drew1 HB.out)
                    clear HO_8
                    clear BK279
                    clear BK280
                    clear HB
                    have HO_8 := n0_
                    have BK279 := n1_
                    have BK280 := n2_
                    have HB := n3_
                    clear n0_ n1_ n2_ n3_
                    refine start_ (n := 20) (S := fun w' => w'.cell? ⟨gb279, 0, none⟩ = some (.int .i64 x280000_3) ∧ w'.cell? ⟨gb279, 1, none⟩ = some (.int .i64 x280001_3) ∧ w'.cell? ⟨gb279, 2, none⟩ = some (.int .i64 x280002_3)) (ds := [15, 19]) #[false, false, false, false, false, false, false, false, false, false, false, false, false, false, false, false, false, false, false, false] (by kernel_rfl) rfl rfl ⟨(blk_cell BK279.out 0).trans rfl, (blk_cell BK279.out 1).trans rfl, (blk_cell BK279.out 2).trans rfl⟩ (fun hHeld => ?_); refine with_tabW policy_Restart.tab7 policy_Restart.bits7 (fun HT_ HW_ => ?_)
                    generalize wr.drew = w24 at HO_8 BK279 BK280 HB hHeld ⊢
                    refine pure_ (i := 0) (N := some 22) (v := ?_) (a' := ?_) #[true, false, false, false, false, false, false, false, false, false, false, false, false, false, false, false, false, false, false, false] rfl rfl (any_of HT_.out (by kernel_rfl)) (fun _ _ _ h => h) (Or.inl ⟨by rfl, ?_⟩) ?_ ?_
                    rotate_left
                    · intro w'
                      go_simp
                      with_reducible rfl
                    rotate_left
                    · simp only [Act.put, List.setIfInBounds_toArray, List.set_cons_zero, List.set_cons_succ, i64_w, i32_w]
                      rfl
                    refine pure_ (i := 1) (N := some 23) (v := ?_) (a' := ?_) #[true, true, false, false, false, false, false, false, false, false, false, false, false, false, false, false, false, false, false, false] rfl rfl (any_of HT_.out (by kernel_rfl)) (fun _ _ _ h => h) (Or.inl ⟨by rfl, ?_⟩) ?_ ?_
                    rotate_left
                    · intro w'
                      go_simp
                      with_reducible rfl
                    rotate_left
                    · simp only [Act.put, List.setIfInBounds_toArray, List.set_cons_zero, List.set_cons_succ, i64_w, i32_w]
                      rfl
                    refine pure_ (i := 2) (N := some 24) (v := ?_) (a' := ?_) #[true, true, true, false, false, false, false, false, false, false, false, false, false, false, false, false, false, false, false, false] rfl rfl (any_of HT_.out (by kernel_rfl)) (fun _ _ _ h => h) (Or.inl ⟨by rfl, ?_⟩) ?_ ?_
                    rotate_left
                    · intro w'
                      go_simp
                      with_reducible rfl
                    rotate_left
                    · simp only [Act.put, List.setIfInBounds_toArray, List.set_cons_zero, List.set_cons_succ, i64_w, i32_w]
                      rfl
                    refine pure_ (i := 3) (N := some 25) (v := ?_) (a' := ?_) #[true, true, true, true, false, false, false, false, false, false, false, false, false, false, false, false, false, false, false, false] rfl rfl (any_of HT_.out (by kernel_rfl)) (fun _ _ _ h => h) (Or.inl ⟨by rfl, ?_⟩) ?_ ?_
                    rotate_left
                    · intro w'
                      go_simp
                      with_reducible rfl
                    rotate_left
                    · simp only [Act.put, List.setIfInBounds_toArray, List.set_cons_zero, List.set_cons_succ, i64_w, i32_w]
                      rfl
                    refine pure_ (i := 4) (N := some 26) (v := ?_) (a' := ?_) #[true, true, true, true, true, false, false, false, false, false, false, false, false, false, false, false, false, false, false, false] rfl rfl (any_of HT_.out (by kernel_rfl)) (fun _ _ _ h => h) (Or.inl ⟨by rfl, ?_⟩) ?_ ?_
                    rotate_left
                    · intro w'
                      go_simp
                      with_reducible rfl
                    rotate_left
                    · simp only [Act.put, List.setIfInBounds_toArray, List.set_cons_zero, List.set_cons_succ, i64_w, i32_w]
                      rfl
                    refine pure_ (i := 6) (N := some 28) (v := ?_) (a' := ?_) #[true, true, true, true, true, false, true, false, false, false, false, false, false, false, false, false, false, false, false, false] rfl rfl (any_of HT_.out (by kernel_rfl)) (fun _ _ _ h => h) (Or.inl ⟨by rfl, ?_⟩) ?_ ?_
                    rotate_left
                    · intro w'
                      go_simp
                      with_reducible rfl
                    rotate_left
                    · simp only [Act.put, List.setIfInBounds_toArray, List.set_cons_zero, List.set_cons_succ, i64_w, i32_w]
                      rfl
                    refine pure_ (i := 8) (N := some 30) (v := ?_) (a' := ?_) #[true, true, true, true, true, false, true, false, true, false, false, false, false, false, false, false, false, false, false, false] rfl rfl (any_of HT_.out (by kernel_rfl)) (fun _ _ _ h => h) (Or.inl ⟨by rfl, ?_⟩) ?_ ?_
                    rotate_left
                    · intro w'
                      go_simp
                      with_reducible rfl
                    rotate_left
                    · simp only [Act.put, List.setIfInBounds_toArray, List.set_cons_zero, List.set_cons_succ, i64_w, i32_w]
                      rfl
                    refine pure_ (i := 10) (N := some 32) (v := ?_) (a' := ?_) #[true, true, true, true, true, false, true, false, true, false, true, false, false, false, false, false, false, false, false, false] rfl rfl (any_of HT_.out (by kernel_rfl)) (fun _ _ _ h => h) (Or.inl ⟨by rfl, ?_⟩) ?_ ?_
                    rotate_left
                    · intro w'
                      go_simp
                      with_reducible rfl
                    rotate_left
                    · simp only [Act.put, List.setIfInBounds_toArray, List.set_cons_zero, List.set_cons_succ, i64_w, i32_w]
                      rfl
                    refine take_ (i := 5) (N := some 27) (v := ?_) (a' := ?_) #[true, true, true, true, true, true, true, false, true, false, true, false, false, false, false, false, false, false, false, false] rfl rfl (take_ofW HT_.out HW_.out (by kernel_rfl)) (fun _ _ _ h => h) (Or.inl ⟨by rfl, ?_⟩) hHeld ?_ ?_
                    rotate_left
                    · rintro w' ⟨s0, s1, s2⟩
                      go_simp
                      with_reducible rfl
                    rotate_left
                    · simp only [Act.put, List.setIfInBounds_toArray, List.set_cons_zero, List.set_cons_succ, i64_w, i32_w]
                      rfl
                    refine take_ (i := 9) (N := some 31) (v := ?_) (a' := ?_) #[true, true, true, true, true, true, true, false, true, true, true, false, false, false, false, false, false, false, false, false] rfl rfl (take_ofW HT_.out HW_.out (by kernel_rfl)) (fun _ _ _ h => h) (Or.inl ⟨by rfl, ?_⟩) hHeld ?_ ?_
                    rotate_left
                    · rintro w' ⟨s0, s1, s2⟩
                      go_simp
                      with_reducible rfl
                    rotate_left
                    · simp only [Act.put, List.setIfInBounds_toArray, List.set_cons_zero, List.set_cons_succ, i64_w, i32_w]
                      rfl
                    refine one_ (i := 7) (N := some 29) #[true, true, true, true, true, true, true, true, true, true, true, false, false, false, false, false, false, false, false, false] rfl rfl (one_of HT_.out (by kernel_rfl)) (by decide) (fun K hK => ?_)
                    refine goes_ Try.func32 (by kernel_rfl) rfl #[.int .i64 x280001_3, .int .i64 x19_2] (by rfl) rfl rfl (by (try simp only [List.map_toArray, List.map_cons, List.map_nil]); first | done | rfl | (simp only [List.length_drop, List.length_take]; rfl)) ?_
                    with_reducible refine (policy_set.calls x280001_3 x19_2 t284 _ A18.out).mono ?_
                    rintro e w' ⟨rfl, ⟨nd, rfl⟩⟩
                    refine ⟨_, rfl, ?_⟩
                    refine hK.out _ _ ⟨(blk_cell BK279.out 0).trans rfl, (blk_cell BK279.out 1).trans rfl, (blk_cell BK279.out 2).trans rfl⟩ (fun hHeld => ?_)
                    clear hK K
                    refine norm_ (a' := ?_) ?_ ?_
                    rotate_left
                    · show Act.put _ (some 29) _ = _
                      simp only [Act.put, List.setIfInBounds_toArray, List.set_cons_zero, List.set_cons_succ, i64_w, i32_w]
                      rfl
                    refine one_ (i := 11) (N := some 33) #[true, true, true, true, true, true, true, true, true, true, true, true, false, false, false, false, false, false, false, false] rfl rfl (one_of HT_.out (by kernel_rfl)) (by decide) (fun K hK => ?_)
                    refine goes_ Try.func32 (by kernel_rfl) rfl #[.int .i64 x280002_3, .int .i64 x19_2] (by rfl) rfl rfl (by (try simp only [List.map_toArray, List.map_cons, List.map_nil]); first | done | rfl | (simp only [List.length_drop, List.length_take]; rfl)) ?_
                    with_reducible refine (policy_set.calls x280002_3 x19_2 t285 _ A19.out).mono ?_
                    rintro e w' ⟨rfl, ⟨nd, rfl⟩⟩
                    refine ⟨_, rfl, ?_⟩
                    have p22 : 0 ≤ (x19_2 : Int) := of_decide_eq_true (by first | (with_reducible assumption) | assumption)
                    have q22 : (x19_2 : Int) < ((x8_2.length : Int) : Int) := of_decide_eq_true (by first | (with_reducible assumption) | assumption)
                    obtain ⟨go22, co22, eo22, gb22, gl22, cl22, HG22⟩ := Kd.R_form HO_8.out (by omega)
                    (first | cases eo22 | (injection eo22 with ea_ en_ ec_; (first | subst ea_ | (injection ea_ with ea_; subst ea_)); subst ec_; clear en_))
                    have GB22 := Aside0.mk gb22
                    have GG22 := Aside0.mk HG22
                    clear gb22 gl22 HG22
                    obtain ⟨ce22, hcl22, hM22, hcc22, hfr22⟩ := Kd.R_elem HO_8.out z39 (x19_2 : Int) p22 q22
                    obtain rfl := k39_openM hM22
                    have hx22_0 : World.cell? _ ⟨go22, (x19_2 : Int).toNat * 11, none⟩ = some (.bool ((rd_T39 x8_2 x19_2).f0.f0)) := hcc22 0 _ rfl
                    have hx22_1 : World.cell? _ ⟨go22, (x19_2 : Int).toNat * 11 + 1, none⟩ = some (.int .i64 ((rd_T39 x8_2 x19_2).f0.f1)) := hcc22 1 _ rfl
                    have hx22_2 : World.cell? _ ⟨go22, (x19_2 : Int).toNat * 11 + 2, none⟩ = some (.int .i64 ((rd_T39 x8_2 x19_2).f0.f2)) := hcc22 2 _ rfl
                    have hx22_3 : World.cell? _ ⟨go22, (x19_2 : Int).toNat * 11 + 3, none⟩ = some (.bool ((rd_T39 x8_2 x19_2).f0.f3)) := hcc22 3 _ rfl
                    have hx22_4 : World.cell? _ ⟨go22, (x19_2 : Int).toNat * 11 + 4, none⟩ = some (.int .i64 ((rd_T39 x8_2 x19_2).f1.f0)) := hcc22 4 _ rfl
                    have hx22_5 : World.cell? _ ⟨go22, (x19_2 : Int).toNat * 11 + 5, none⟩ = some (.int .i64 ((rd_T39 x8_2 x19_2).f1.f1)) := hcc22 5 _ rfl
                    have hx22_6 : World.cell? _ ⟨go22, (x19_2 : Int).toNat * 11 + 6, none⟩ = some (.bool ((rd_T39 x8_2 x19_2).f1.f2)) := hcc22 6 _ rfl
                    have hx22_7 : World.cell? _ ⟨go22, (x19_2 : Int).toNat * 11 + 7, none⟩ = some (.bool ((rd_T39 x8_2 x19_2).f2)) := hcc22 7 _ rfl
                    have hx22_8 : World.cell? _ ⟨go22, (x19_2 : Int).toNat * 11 + 8, none⟩ = some (.int .i64 ((rd_T39 x8_2 x19_2).f3)) := hcc22 8 _ rfl
                    have hx22_9 : World.cell? _ ⟨go22, (x19_2 : Int).toNat * 11 + 9, none⟩ = some (.bool ((rd_T39 x8_2 x19_2).f4)) := hcc22 9 _ rfl
                    have hx22_10 : World.cell? _ ⟨go22, (x19_2 : Int).toNat * 11 + 10, none⟩ = some (.bool ((rd_T39 x8_2 x19_2).f5)) := hcc22 10 _ rfl
                    have hf22_0 : World.frozen? _ ⟨go22, (x19_2 : Int).toNat * 11, none⟩ = false := hfr22 0
                    have hf22_1 : World.frozen? _ ⟨go22, (x19_2 : Int).toNat * 11 + 1, none⟩ = false := hfr22 1
                    have hf22_2 : World.frozen? _ ⟨go22, (x19_2 : Int).toNat * 11 + 2, none⟩ = false := hfr22 2
                    have hf22_3 : World.frozen? _ ⟨go22, (x19_2 : Int).toNat * 11 + 3, none⟩ = false := hfr22 3
                    have hf22_4 : World.frozen? _ ⟨go22, (x19_2 : Int).toNat * 11 + 4, none⟩ = false := hfr22 4
                    have hf22_5 : World.frozen? _ ⟨go22, (x19_2 : Int).toNat * 11 + 5, none⟩ = false := hfr22 5
                    have hf22_6 : World.frozen? _ ⟨go22, (x19_2 : Int).toNat * 11 + 6, none⟩ = false := hfr22 6
                    have hf22_7 : World.frozen? _ ⟨go22, (x19_2 : Int).toNat * 11 + 7, none⟩ = false := hfr22 7
                    have hf22_8 : World.frozen? _ ⟨go22, (x19_2 : Int).toNat * 11 + 8, none⟩ = false := hfr22 8
                    have hf22_9 : World.frozen? _ ⟨go22, (x19_2 : Int).toNat * 11 + 9, none⟩ = false := hfr22 9
                    have hf22_10 : World.frozen? _ ⟨go22, (x19_2 : Int).toNat * 11 + 10, none⟩ = false := hfr22 10
                    clear hcl22 hcc22 hfr22 hM22
                    replace p22 := eq_true p22
                    replace q22 := eq_true q22
                    obtain ⟨ce25, hcl25, hM25, hcc25, hfr25⟩ := Kd.R_elem HO_8.out z39 (x19_2 : Int) (of_decide_eq_true (by first | (with_reducible assumption) | assumption)) (by have h_ : (x19_2 : Int) < ((x8_2.length : Int) : Int) := of_decide_eq_true (by first | (with_reducible assumption) | assumption); first | exact h_ | (have e_ := (Kd.R_reads' HO_8.out).1; omega) | simpa using h_)
                    obtain rfl := k39_openM hM25
                    have HP25 := (Kd.R_seg HO_8.out (x19_2 : Int) (of_decide_eq_true (by first | (with_reducible assumption) | assumption)) (by have h_ : (x19_2 : Int) < ((x8_2.length : Int) : Int) := of_decide_eq_true (by first | (with_reducible assumption) | assumption); first | exact h_ | (have e_ := (Kd.R_reads' HO_8.out).1; omega) | simpa using h_) (seg := [.bool t284]) (j := 3) hcl25 hcc25 (show 4 ≤ 11 from by decide) (x' := (⟨(⟨(rd_T39 x8_2 x19_2).f0.f0, (rd_T39 x8_2 x19_2).f0.f1, (rd_T39 x8_2 x19_2).f0.f2, t284⟩ : S35), (⟨(rd_T39 x8_2 x19_2).f1.f0, (rd_T39 x8_2 x19_2).f1.f1, (rd_T39 x8_2 x19_2).f1.f2⟩ : S37), (rd_T39 x8_2 x19_2).f2, (rd_T39 x8_2 x19_2).f3, (rd_T39 x8_2 x19_2).f4, (rd_T39 x8_2 x19_2).f5⟩ : S39)) (k39_mkM _ _ _ (⟨(⟨(rd_T39 x8_2 x19_2).f0.f0, (rd_T39 x8_2 x19_2).f0.f1, (rd_T39 x8_2 x19_2).f0.f2, t284⟩ : S35), (⟨(rd_T39 x8_2 x19_2).f1.f0, (rd_T39 x8_2 x19_2).f1.f1, (rd_T39 x8_2 x19_2).f1.f2⟩ : S37), (rd_T39 x8_2 x19_2).f2, (rd_T39 x8_2 x19_2).f3, (rd_T39 x8_2 x19_2).f4, (rd_T39 x8_2 x19_2).f5⟩ : S39) ) (fun _ hk => hk)).1
                    rw [← Ny286.out] at HP25
                    have HQ25 := Aside0.mk HP25
                    clear hcl25 hcc25 hfr25 hM25 HP25
                    have p23 : 0 ≤ (x19_2 : Int) := of_decide_eq_true (by first | (with_reducible assumption) | assumption)
                    have q23 : (x19_2 : Int) < ((x8_2.length : Int) : Int) := of_decide_eq_true (by first | (with_reducible assumption) | assumption)
                    replace p23 := eq_true p23
                    replace q23 := eq_true q23
                    obtain ⟨ce26, hcl26, hM26, hcc26, hfr26⟩ := Kd.R_elem HQ25.out z39 (x19_2 : Int) (of_decide_eq_true (by first | (with_reducible assumption) | assumption)) (by have h_ : (x19_2 : Int) < ((x8_2.length : Int) : Int) := of_decide_eq_true (by first | (with_reducible assumption) | assumption); first | exact h_ | (have e_ := (Kd.R_reads' HO_8.out).1; omega) | simpa using h_)
                    obtain rfl := k39_openM hM26
                    have HP26 := (Kd.R_seg HQ25.out (x19_2 : Int) (of_decide_eq_true (by first | (with_reducible assumption) | assumption)) (by have h_ : (x19_2 : Int) < ((x8_2.length : Int) : Int) := of_decide_eq_true (by first | (with_reducible assumption) | assumption); first | exact h_ | (have e_ := (Kd.R_reads' HO_8.out).1; omega) | simpa using h_) (seg := [.bool t285]) (j := 6) hcl26 hcc26 (show 7 ≤ 11 from by decide) (x' := (⟨(⟨(rd_T39 y286 x19_2).f0.f0, (rd_T39 y286 x19_2).f0.f1, (rd_T39 y286 x19_2).f0.f2, (rd_T39 y286 x19_2).f0.f3⟩ : S35), (⟨(rd_T39 y286 x19_2).f1.f0, (rd_T39 y286 x19_2).f1.f1, t285⟩ : S37), (rd_T39 y286 x19_2).f2, (rd_T39 y286 x19_2).f3, (rd_T39 y286 x19_2).f4, (rd_T39 y286 x19_2).f5⟩ : S39)) (k39_mkM _ _ _ (⟨(⟨(rd_T39 y286 x19_2).f0.f0, (rd_T39 y286 x19_2).f0.f1, (rd_T39 y286 x19_2).f0.f2, (rd_T39 y286 x19_2).f0.f3⟩ : S35), (⟨(rd_T39 y286 x19_2).f1.f0, (rd_T39 y286 x19_2).f1.f1, t285⟩ : S37), (rd_T39 y286 x19_2).f2, (rd_T39 y286 x19_2).f3, (rd_T39 y286 x19_2).f4, (rd_T39 y286 x19_2).f5⟩ : S39) ) (fun _ hk => hk)).1
                    rw [← Ny287.out] at HP26
                    have HQ26 := Aside0.mk HP26
                    clear hcl26 hcc26 hfr26 hM26 HP26
                    refine hK.out _ _ ⟨(blk_cell BK279.out 0).trans rfl, (blk_cell BK279.out 1).trans rfl, (blk_cell BK279.out 2).trans rfl⟩ (fun hHeld => ?_)
                    clear hK K
                    refine norm_ (a' := ?_) ?_ ?_
                    rotate_left
                    · show Act.put _ (some 33) _ = _
                      simp only [Act.put, List.setIfInBounds_toArray, List.set_cons_zero, List.set_cons_succ, i64_w, i32_w]
                      rfl
                    refine pure_ (i := 12) (N := some 34) (v := ?_) (a' := ?_) #[true, true, true, true, true, true, true, true, true, true, true, true, true, false, false, false, false, false, false, false] rfl rfl (any_of HT_.out (by kernel_rfl)) (fun _ _ _ h => h) (Or.inl ⟨by rfl, ?_⟩) ?_ ?_
                    rotate_left
                    · intro w'
                      go_simp
                      with_reducible rfl
                    rotate_left
                    · simp only [Act.put, List.setIfInBounds_toArray, List.set_cons_zero, List.set_cons_succ, i64_w, i32_w]
                      rfl
                    refine pure_ (i := 13) (N := some 35) (v := ?_) (a' := ?_) #[true, true, true, true, true, true, true, true, true, true, true, true, true, true, false, false, false, false, false, false] rfl rfl (any_of HT_.out (by kernel_rfl)) (fun _ _ _ h => h) (Or.inl ⟨by rfl, ?_⟩) ?_ ?_
                    rotate_left
                    · intro w'
                      go_simp
                      with_reducible rfl
                    rotate_left
                    · simp only [Act.put, List.setIfInBounds_toArray, List.set_cons_zero, List.set_cons_succ, i64_w, i32_w]
                      rfl
                    refine pure_ (i := 14) (N := some 36) (v := ?_) (a' := ?_) #[true, true, true, true, true, true, true, true, true, true, true, true, true, true, true, false, false, false, false, false] rfl rfl (any_of HT_.out (by kernel_rfl)) (fun _ _ _ h => h) (Or.inl ⟨by rfl, ?_⟩) ?_ ?_
                    rotate_left
                    · intro w'
                      go_simp
                      with_reducible rfl
                    rotate_left
                    · simp only [Act.put, List.setIfInBounds_toArray, List.set_cons_zero, List.set_cons_succ, i64_w, i32_w]
                      rfl
                    refine last_ (i := 15) (N := none) #[true, true, true, true, true, true, true, true, true, true, true, true, true, true, true, true, false, false, false, false] rfl rfl (one_of HT_.out (by kernel_rfl)) (by decide) (fun K hK => ?_)
                    refine skip_ (w1 := ?_) (by rfl) rfl ?_ ?_
                    rotate_left
                    · go_simp
                      rfl
                    refine hK.out _ _ ?_
                    clear hK K
                    refine pure_ (i := 16) (N := some 37) (v := ?_) (a' := ?_) #[true, true, true, true, true, true, true, true, true, true, true, true, true, true, true, true, true, false, false, false] rfl rfl (any_of HT_.out (by kernel_rfl)) (fun _ _ _ h => h) (Or.inl ⟨by rfl, ?_⟩) ?_ ?_
                    rotate_left
                    · intro w'
                      go_simp
                      with_reducible rfl
                    rotate_left
                    · simp only [Act.put, List.setIfInBounds_toArray, List.set_cons_zero, List.set_cons_succ, i64_w, i32_w]
                      rfl
                    refine pure_ (i := 17) (N := some 38) (v := ?_) (a' := ?_) #[true, true, true, true, true, true, true, true, true, true, true, true, true, true, true, true, true, true, false, false] rfl rfl (any_of HT_.out (by kernel_rfl)) (fun _ _ _ h => h) (Or.inl ⟨by rfl, ?_⟩) ?_ ?_
                    rotate_left
                    · intro w'
                      go_simp
                      with_reducible rfl
                    rotate_left
                    · simp only [Act.put, List.setIfInBounds_toArray, List.set_cons_zero, List.set_cons_succ, i64_w, i32_w]
                      rfl
                    refine pure_ (i := 18) (N := some 39) (v := ?_) (a' := ?_) #[true, true, true, true, true, true, true, true, true, true, true, true, true, true, true, true, true, true, true, false] rfl rfl (any_of HT_.out (by kernel_rfl)) (fun _ _ _ h => h) (Or.inl ⟨by rfl, ?_⟩) ?_ ?_
                    rotate_left
                    · intro w'
                      go_simp
                      with_reducible rfl
                    rotate_left
                    · simp only [Act.put, List.setIfInBounds_toArray, List.set_cons_zero, List.set_cons_succ, i64_w, i32_w]
                      rfl
                    refine last_ (i := 19) (N := none) #[true, true, true, true, true, true, true, true, true, true, true, true, true, true, true, true, true, true, true, true] rfl rfl (one_of HT_.out (by kernel_rfl)) (by decide) (fun K hK => ?_)
                    refine skip_ (w1 := ?_) (by rfl) rfl ?_ ?_
                    rotate_left
                    · go_simp
                      rfl
                    refine hK.out _ _ ?_
                    clear hK K
                    refine done_ (done_of HT_.out (by kernel_rfl)) ?_
                    try go_wp2
                    (try simp only [← hl8_2])
                    go_roundg k2
                    case measure => have := HJ3.out; have := HK2.out; omega
                    case rel => exact ⟨(y287), (wrap64 (x19_2 + 1)), (by first | rfl | (simp; done) | (simp [*]; done)), H', ⟨by have := HJ3.out; have := HK2.out; omega⟩, ⟨by (try simp only [hl8_2]); (with_reducible repeat (first | apply Kd.R_alloc | apply Kd.R_drewN | apply Kd.R_drew)); exact HQ26.out⟩, ⟨by (try simp only [hl8_2]); (with_reducible repeat (first | refine blk_drewN ?_ _ | refine blk_drew ?_ | refine blk_alloc ?_ _)); refine blk_far ?_ (by have h_ := Kd.R_ne HO_8.out BK279.out (by decide); intro e_; exact h_ (by rw [e_]; rfl)) _; (with_reducible repeat (first | refine blk_drewN ?_ _ | refine blk_drew ?_ | refine blk_alloc ?_ _)); refine blk_far ?_ (by have h_ := Kd.R_ne HO_8.out BK279.out (by decide); intro e_; exact h_ (by rw [e_]; rfl)) _; (with_reducible repeat (first | refine blk_drewN ?_ _ | refine blk_drew ?_ | refine blk_alloc ?_ _)); exact BK279.out⟩, ⟨by (try simp only [hl8_2]); (with_reducible repeat (first | refine blk_drewN ?_ _ | refine blk_drew ?_ | refine blk_alloc ?_ _)); refine blk_far ?_ (by have h_ := Kd.R_ne HO_8.out BK280.out (by decide); intro e_; exact h_ (by rw [e_]; rfl)) _; (with_reducible repeat (first | refine blk_drewN ?_ _ | refine blk_drew ?_ | refine blk_alloc ?_ _)); refine blk_far ?_ (by have h_ := Kd.R_ne HO_8.out BK280.out (by decide); intro e_; exact h_ (by rw [e_]; rfl)) _; (with_reducible repeat (first | refine blk_drewN ?_ _ | refine blk_drew ?_ | refine blk_alloc ?_ _)); exact BK280.out⟩, ⟨by repeat (first | (with_reducible first | exact HB.out | apply below_alloc | apply pw_below_drewN | apply below_drew1 | refine below_set ?_ GB22.out | refine below_set ?_ GB22.out | refine below_set ?_ GE279.out | refine below_set ?_ GE280.out) | exact HB.out)⟩⟩
                  · rw [if_neg c21] at H
                    exact absurd H (by simp)
                · rw [if_neg c20] at H
                  exact absurd H (by simp)
              · rw [if_neg c17] at H
                have c17b0 : decide (x19_2 < (y281.length : Int)) = false := decide_eq_false c17
                have c17b9 : decide (x19_2 < (x8_2.length : Int)) = false := by rw [← hl8_2]; exact c17b0
                clear c17
                by_cases c27 : x280000_3 < 0
                · rw [if_pos c27] at H
                  have c27b0 : decide (x280000_3 < 0) = true := decide_eq_true c27
                  clear c27
                  replace H := Option.bind_eq_some_iff.mp H
                  obtain ⟨⟨t288, t289⟩, A280, H⟩ := H
                  replace H : (some (t288, t289, x8_2)) = some (r1, r2, r3) := H
                  have A28 := Aside0.mk A280
                  clear A280
                  simp only [Option.some.injEq, Prod.mk.injEq] at H
                  obtain ⟨rfl, rfl, rfl⟩ := H
                  have hnb29 := NB279_280.out
                  have hnc29 := NB280_279.out
                  have hcz30_0 : wr.cell? ⟨gb279, 0, none⟩ = some (.int .i64 x280000_3) := (blk_cell BK279.out 0).trans rfl
                  have hcz30_1 : wr.cell? ⟨gb279, 1, none⟩ = some (.int .i64 x280001_3) := (blk_cell BK279.out 1).trans rfl
                  have hcz30_2 : wr.cell? ⟨gb279, 2, none⟩ = some (.int .i64 x280002_3) := (blk_cell BK279.out 2).trans rfl
                  have hfz30_0 := blk_frozen BK279.out 0
                  have hfz30_1 := blk_frozen BK279.out 1
                  have hfz30_2 := blk_frozen BK279.out 2
                  go_wp2_with (first | ((with_reducible refine gate_callee (f := 24) rfl ?_); refine goesL_ (some 50) rfl rfl Try.func24 (by kernel_rfl) rfl #[.int .i64 3] rfl (by (try simp only [List.map_toArray, List.map_cons, List.map_nil]); first | done | rfl | (simp only [List.length_drop, List.length_take]; rfl)) ?_; (with_reducible refine (phase_Enter.calls 3 t288 t289 _ A28.out).mono ?_); rintro e w31 ⟨rfl, hb⟩; refine ⟨_, rfl, ?_⟩; have n0_ := Aside0.mk (Kd.R_below (by (with_reducible repeat (first | apply Kd.R_alloc | apply Kd.R_drewN | apply Kd.R_drew)); exact HO_8.out) hb); have n1_ := Aside0.mk (blk_below (g := gb279) (o := .cells #[.int .i64 x280000_3, .int .i64 x280001_3, .int .i64 x280002_3] 46 (0, 0)) (by (with_reducible repeat (first | refine blk_drewN ?_ _ | refine blk_drew ?_ | refine blk_alloc ?_ _)); exact BK279.out) hb); have n2_ := Aside0.mk (blk_below (g := gb280) (o := .cells #[.int .i64 0, .int .i64 0] 44 (0, 0)) (by (with_reducible repeat (first | refine blk_drewN ?_ _ | refine blk_drew ?_ | refine blk_alloc ?_ _)); exact BK280.out) hb); have n3_ := Aside0.mk (below_step (by repeat (first | (with_reducible first | exact HB.out | apply below_alloc | apply pw_below_drewN | apply below_drew1 | refine below_set ?_ GE279.out | refine below_set ?_ GE280.out) | exact HB.out)) hb); clear HO_8; clear BK279; clear BK280; clear HB; have HO_8 := n0_; have BK279 := n1_; have BK280 := n2_; have HB := n3_; clear n0_ n1_ n2_ n3_; (try clear hb); (try clear hb2); (try clear hk); (try clear hi); have hcz32_0 : w31.cell? ⟨gb280, 0, none⟩ = some (.int .i64 0) := (blk_cell BK280.out 0).trans rfl; have hcz32_1 : w31.cell? ⟨gb280, 1, none⟩ = some (.int .i64 0) := (blk_cell BK280.out 1).trans rfl; have hfz32_0 := blk_frozen BK280.out 0; have hfz32_1 := blk_frozen BK280.out 1))
                  refine bodyPost_ret (results_ct rfl _ _ gb280 44 #[.int .i64 t288, .int .i64 t289] (0, 0) _ rfl (by (with_reducible repeat (first | refine blk_drewN ?_ _ | refine blk_drew ?_ | refine blk_alloc ?_ _)); refine blk_put (cs := #[.int .i64 t288, .int .i64 0]) ?_ 1 _ rfl; (with_reducible repeat (first | refine blk_drewN ?_ _ | refine blk_drew ?_ | refine blk_alloc ?_ _)); refine blk_put (cs := #[.int .i64 0, .int .i64 0]) ?_ 0 _ rfl; (with_reducible repeat (first | refine blk_drewN ?_ _ | refine blk_drew ?_ | refine blk_alloc ?_ _)); exact BK280.out) Try.underlying44 rfl (by kernel_rfl)) rfl ?_
                  exact ⟨_, by first | rfl | (simp [errW_none, errW_some] <;> rfl) | (simp only [← hji10, ← hji11]; first | rfl | (simp [errW_none, errW_some] <;> rfl)) | (simp [*, errW_none, errW_some] <;> rfl), by (with_reducible repeat (first | apply Kd.R_alloc | apply Kd.R_drewN | apply Kd.R_drew)); exact Kd.R_mono (Kd.R_far (p := ⟨gb280, 1, none⟩) (Kd.R_far (p := ⟨gb280, 0, none⟩) (Kd.R_types HO_8.out BK280.out (by decide)) (fun _ hk => hk.2) (.int .i64 t288)) (fun _ hk => hk.2) (.int .i64 t289)) (fun _ hk => trivial), by repeat (first | (with_reducible first | exact HB.out | apply below_alloc | apply pw_below_drewN | apply below_drew1 | refine below_set ?_ GE279.out | refine below_set ?_ GE280.out) | exact HB.out)⟩
                · rw [if_neg c27] at H
                  have c27b0 : decide (x280000_3 < 0) = false := decide_eq_false c27
                  clear c27
                  by_cases c33 : x280000_3 ≥ 7
                  · rw [if_pos c33] at H
                    have c33b0 : decide (7 ≤ x280000_3) = true := decide_eq_true c33
                    clear c33
                    replace H := Option.bind_eq_some_iff.mp H
                    obtain ⟨⟨t290, t291⟩, A340, H⟩ := H
                    replace H : (some (t290, t291, x8_2)) = some (r1, r2, r3) := H
                    have A34 := Aside0.mk A340
                    clear A340
                    simp only [Option.some.injEq, Prod.mk.injEq] at H
                    obtain ⟨rfl, rfl, rfl⟩ := H
                    have hnb35 := NB279_280.out
                    have hnc35 := NB280_279.out
                    have hcz36_0 : wr.cell? ⟨gb279, 0, none⟩ = some (.int .i64 x280000_3) := (blk_cell BK279.out 0).trans rfl
                    have hcz36_1 : wr.cell? ⟨gb279, 1, none⟩ = some (.int .i64 x280001_3) := (blk_cell BK279.out 1).trans rfl
                    have hcz36_2 : wr.cell? ⟨gb279, 2, none⟩ = some (.int .i64 x280002_3) := (blk_cell BK279.out 2).trans rfl
                    have hfz36_0 := blk_frozen BK279.out 0
                    have hfz36_1 := blk_frozen BK279.out 1
                    have hfz36_2 := blk_frozen BK279.out 2
                    go_wp2_with (first | ((with_reducible refine gate_callee (f := 24) rfl ?_); refine goesL_ (some 50) rfl rfl Try.func24 (by kernel_rfl) rfl #[.int .i64 3] rfl (by (try simp only [List.map_toArray, List.map_cons, List.map_nil]); first | done | rfl | (simp only [List.length_drop, List.length_take]; rfl)) ?_; (with_reducible refine (phase_Enter.calls 3 t290 t291 _ A34.out).mono ?_); rintro e w37 ⟨rfl, hb⟩; refine ⟨_, rfl, ?_⟩; have n0_ := Aside0.mk (Kd.R_below (by (with_reducible repeat (first | apply Kd.R_alloc | apply Kd.R_drewN | apply Kd.R_drew)); exact HO_8.out) hb); have n1_ := Aside0.mk (blk_below (g := gb279) (o := .cells #[.int .i64 x280000_3, .int .i64 x280001_3, .int .i64 x280002_3] 46 (0, 0)) (by (with_reducible repeat (first | refine blk_drewN ?_ _ | refine blk_drew ?_ | refine blk_alloc ?_ _)); exact BK279.out) hb); have n2_ := Aside0.mk (blk_below (g := gb280) (o := .cells #[.int .i64 0, .int .i64 0] 44 (0, 0)) (by (with_reducible repeat (first | refine blk_drewN ?_ _ | refine blk_drew ?_ | refine blk_alloc ?_ _)); exact BK280.out) hb); have n3_ := Aside0.mk (below_step (by repeat (first | (with_reducible first | exact HB.out | apply below_alloc | apply pw_below_drewN | apply below_drew1 | refine below_set ?_ GE279.out | refine below_set ?_ GE280.out) | exact HB.out)) hb); clear HO_8; clear BK279; clear BK280; clear HB; have HO_8 := n0_; have BK279 := n1_; have BK280 := n2_; have HB := n3_; clear n0_ n1_ n2_ n3_; (try clear hb); (try clear hb2); (try clear hk); (try clear hi); have hcz38_0 : w37.cell? ⟨gb280, 0, none⟩ = some (.int .i64 0) := (blk_cell BK280.out 0).trans rfl; have hcz38_1 : w37.cell? ⟨gb280, 1, none⟩ = some (.int .i64 0) := (blk_cell BK280.out 1).trans rfl; have hfz38_0 := blk_frozen BK280.out 0; have hfz38_1 := blk_frozen BK280.out 1))
                    refine bodyPost_ret (results_ct rfl _ _ gb280 44 #[.int .i64 t290, .int .i64 t291] (0, 0) _ rfl (by (with_reducible repeat (first | refine blk_drewN ?_ _ | refine blk_drew ?_ | refine blk_alloc ?_ _)); refine blk_put (cs := #[.int .i64 t290, .int .i64 0]) ?_ 1 _ rfl; (with_reducible repeat (first | refine blk_drewN ?_ _ | refine blk_drew ?_ | refine blk_alloc ?_ _)); refine blk_put (cs := #[.int .i64 0, .int .i64 0]) ?_ 0 _ rfl; (with_reducible repeat (first | refine blk_drewN ?_ _ | refine blk_drew ?_ | refine blk_alloc ?_ _)); exact BK280.out) Try.underlying44 rfl (by kernel_rfl)) rfl ?_
                    exact ⟨_, by first | rfl | (simp [errW_none, errW_some] <;> rfl) | (simp only [← hji10, ← hji11]; first | rfl | (simp [errW_none, errW_some] <;> rfl)) | (simp [*, errW_none, errW_some] <;> rfl), by (with_reducible repeat (first | apply Kd.R_alloc | apply Kd.R_drewN | apply Kd.R_drew)); exact Kd.R_mono (Kd.R_far (p := ⟨gb280, 1, none⟩) (Kd.R_far (p := ⟨gb280, 0, none⟩) (Kd.R_types HO_8.out BK280.out (by decide)) (fun _ hk => hk.2) (.int .i64 t290)) (fun _ hk => hk.2) (.int .i64 t291)) (fun _ hk => trivial), by repeat (first | (with_reducible first | exact HB.out | apply below_alloc | apply pw_below_drewN | apply below_drew1 | refine below_set ?_ GE279.out | refine below_set ?_ GE280.out) | exact HB.out)⟩
                  · rw [if_neg c33] at H
                    have c33b0 : decide (7 ≤ x280000_3) = false := decide_eq_false c33
                    clear c33
                    by_cases c39 : x280000_3 = 0
                    · rw [if_pos c39] at H
                      have c39b0 : (x280000_3 == 0) = true := beq_iff_eq.mpr c39
                      have c39b1 : (x280000_3 != 0) = false := bne_eq_false_iff_eq.mpr c39
                      clear c39
                      replace H := Option.bind_eq_some_iff.mp H
                      obtain ⟨⟨t292, t293⟩, A400, H⟩ := H
                      replace H : (some (t292, t293, x8_2)) = some (r1, r2, r3) := H
                      have A40 := Aside0.mk A400
                      clear A400
                      simp only [Option.some.injEq, Prod.mk.injEq] at H
                      obtain ⟨rfl, rfl, rfl⟩ := H
                      have hnb41 := NB279_280.out
                      have hnc41 := NB280_279.out
                      have hcz42_0 : wr.cell? ⟨gb279, 0, none⟩ = some (.int .i64 x280000_3) := (blk_cell BK279.out 0).trans rfl
                      have hcz42_1 : wr.cell? ⟨gb279, 1, none⟩ = some (.int .i64 x280001_3) := (blk_cell BK279.out 1).trans rfl
                      have hcz42_2 : wr.cell? ⟨gb279, 2, none⟩ = some (.int .i64 x280002_3) := (blk_cell BK279.out 2).trans rfl
                      have hfz42_0 := blk_frozen BK279.out 0
                      have hfz42_1 := blk_frozen BK279.out 1
                      have hfz42_2 := blk_frozen BK279.out 2
                      go_wp2_with (first | ((with_reducible refine gate_callee (f := 24) rfl ?_); refine goesL_ (some 56) rfl rfl Try.func24 (by kernel_rfl) rfl #[.int .i64 6] rfl (by (try simp only [List.map_toArray, List.map_cons, List.map_nil]); first | done | rfl | (simp only [List.length_drop, List.length_take]; rfl)) ?_; (with_reducible refine (phase_Enter.calls 6 t292 t293 _ A40.out).mono ?_); rintro e w43 ⟨rfl, hb⟩; refine ⟨_, rfl, ?_⟩; have n0_ := Aside0.mk (Kd.R_below (by (with_reducible repeat (first | apply Kd.R_alloc | apply Kd.R_drewN | apply Kd.R_drew)); exact HO_8.out) hb); have n1_ := Aside0.mk (blk_below (g := gb279) (o := .cells #[.int .i64 x280000_3, .int .i64 x280001_3, .int .i64 x280002_3] 46 (0, 0)) (by (with_reducible repeat (first | refine blk_drewN ?_ _ | refine blk_drew ?_ | refine blk_alloc ?_ _)); exact BK279.out) hb); have n2_ := Aside0.mk (blk_below (g := gb280) (o := .cells #[.int .i64 0, .int .i64 0] 44 (0, 0)) (by (with_reducible repeat (first | refine blk_drewN ?_ _ | refine blk_drew ?_ | refine blk_alloc ?_ _)); exact BK280.out) hb); have n3_ := Aside0.mk (below_step (by repeat (first | (with_reducible first | exact HB.out | apply below_alloc | apply pw_below_drewN | apply below_drew1 | refine below_set ?_ GE279.out | refine below_set ?_ GE280.out) | exact HB.out)) hb); clear HO_8; clear BK279; clear BK280; clear HB; have HO_8 := n0_; have BK279 := n1_; have BK280 := n2_; have HB := n3_; clear n0_ n1_ n2_ n3_; (try clear hb); (try clear hb2); (try clear hk); (try clear hi); have hcz44_0 : w43.cell? ⟨gb280, 0, none⟩ = some (.int .i64 0) := (blk_cell BK280.out 0).trans rfl; have hcz44_1 : w43.cell? ⟨gb280, 1, none⟩ = some (.int .i64 0) := (blk_cell BK280.out 1).trans rfl; have hfz44_0 := blk_frozen BK280.out 0; have hfz44_1 := blk_frozen BK280.out 1))
                      refine bodyPost_ret (results_ct rfl _ _ gb280 44 #[.int .i64 t292, .int .i64 t293] (0, 0) _ rfl (by (with_reducible repeat (first | refine blk_drewN ?_ _ | refine blk_drew ?_ | refine blk_alloc ?_ _)); refine blk_put (cs := #[.int .i64 t292, .int .i64 0]) ?_ 1 _ rfl; (with_reducible repeat (first | refine blk_drewN ?_ _ | refine blk_drew ?_ | refine blk_alloc ?_ _)); refine blk_put (cs := #[.int .i64 0, .int .i64 0]) ?_ 0 _ rfl; (with_reducible repeat (first | refine blk_drewN ?_ _ | refine blk_drew ?_ | refine blk_alloc ?_ _)); exact BK280.out) Try.underlying44 rfl (by kernel_rfl)) rfl ?_
                      exact ⟨_, by first | rfl | (simp [errW_none, errW_some] <;> rfl) | (simp only [← hji10, ← hji11]; first | rfl | (simp [errW_none, errW_some] <;> rfl)) | (simp [*, errW_none, errW_some] <;> rfl), by (with_reducible repeat (first | apply Kd.R_alloc | apply Kd.R_drewN | apply Kd.R_drew)); exact Kd.R_mono (Kd.R_far (p := ⟨gb280, 1, none⟩) (Kd.R_far (p := ⟨gb280, 0, none⟩) (Kd.R_types HO_8.out BK280.out (by decide)) (fun _ hk => hk.2) (.int .i64 t292)) (fun _ hk => hk.2) (.int .i64 t293)) (fun _ hk => trivial), by repeat (first | (with_reducible first | exact HB.out | apply below_alloc | apply pw_below_drewN | apply below_drew1 | refine below_set ?_ GE279.out | refine below_set ?_ GE280.out) | exact HB.out)⟩
                    · rw [if_neg c39] at H
                      have c39b0 : (x280000_3 == 0) = false := beq_eq_false_iff_ne.mpr c39
                      have c39b1 : (x280000_3 != 0) = true := bne_iff_ne.mpr c39
                      replace H := Option.bind_eq_some_iff.mp H
                      obtain ⟨⟨t294, t295⟩, A450, H⟩ := H
                      replace H : (some (t294, t295, x8_2)) = some (r1, r2, r3) := H
                      have A45 := Aside0.mk A450
                      clear A450
                      simp only [Option.some.injEq, Prod.mk.injEq] at H
                      obtain ⟨rfl, rfl, rfl⟩ := H
                      have hnb46 := NB279_280.out
                      have hnc46 := NB280_279.out
                      have hcz47_0 : wr.cell? ⟨gb279, 0, none⟩ = some (.int .i64 x280000_3) := (blk_cell BK279.out 0).trans rfl
                      have hcz47_1 : wr.cell? ⟨gb279, 1, none⟩ = some (.int .i64 x280001_3) := (blk_cell BK279.out 1).trans rfl
                      have hcz47_2 : wr.cell? ⟨gb279, 2, none⟩ = some (.int .i64 x280002_3) := (blk_cell BK279.out 2).trans rfl
                      have hfz47_0 := blk_frozen BK279.out 0
                      have hfz47_1 := blk_frozen BK279.out 1
                      have hfz47_2 := blk_frozen BK279.out 2
                      go_wp2_with (first | ((with_reducible refine gate_callee (f := 24) rfl ?_); refine goesL_ (some 60) rfl rfl Try.func24 (by kernel_rfl) rfl #[.int .i64 x280000_3] rfl (by (try simp only [List.map_toArray, List.map_cons, List.map_nil]); first | done | rfl | (simp only [List.length_drop, List.length_take]; rfl)) ?_; (with_reducible refine (phase_Enter.calls x280000_3 t294 t295 _ A45.out).mono ?_); rintro e w48 ⟨rfl, hb⟩; refine ⟨_, rfl, ?_⟩; have n0_ := Aside0.mk (Kd.R_below (by (with_reducible repeat (first | apply Kd.R_alloc | apply Kd.R_drewN | apply Kd.R_drew)); exact HO_8.out) hb); have n1_ := Aside0.mk (blk_below (g := gb279) (o := .cells #[.int .i64 x280000_3, .int .i64 x280001_3, .int .i64 x280002_3] 46 (0, 0)) (by (with_reducible repeat (first | refine blk_drewN ?_ _ | refine blk_drew ?_ | refine blk_alloc ?_ _)); exact BK279.out) hb); have n2_ := Aside0.mk (blk_below (g := gb280) (o := .cells #[.int .i64 0, .int .i64 0] 44 (0, 0)) (by (with_reducible repeat (first | refine blk_drewN ?_ _ | refine blk_drew ?_ | refine blk_alloc ?_ _)); exact BK280.out) hb); have n3_ := Aside0.mk (below_step (by repeat (first | (with_reducible first | exact HB.out | apply below_alloc | apply pw_below_drewN | apply below_drew1 | refine below_set ?_ GE279.out | refine below_set ?_ GE280.out) | exact HB.out)) hb); clear HO_8; clear BK279; clear BK280; clear HB; have HO_8 := n0_; have BK279 := n1_; have BK280 := n2_; have HB := n3_; clear n0_ n1_ n2_ n3_; (try clear hb); (try clear hb2); (try clear hk); (try clear hi); have hcz49_0 : w48.cell? ⟨gb280, 0, none⟩ = some (.int .i64 0) := (blk_cell BK280.out 0).trans rfl; have hcz49_1 : w48.cell? ⟨gb280, 1, none⟩ = some (.int .i64 0) := (blk_cell BK280.out 1).trans rfl; have hfz49_0 := blk_frozen BK280.out 0; have hfz49_1 := blk_frozen BK280.out 1))
                      refine bodyPost_ret (results_ct rfl _ _ gb280 44 #[.int .i64 t294, .int .i64 t295] (0, 0) _ rfl (by (with_reducible repeat (first | refine blk_drewN ?_ _ | refine blk_drew ?_ | refine blk_alloc ?_ _)); refine blk_put (cs := #[.int .i64 t294, .int .i64 0]) ?_ 1 _ rfl; (with_reducible repeat (first | refine blk_drewN ?_ _ | refine blk_drew ?_ | refine blk_alloc ?_ _)); refine blk_put (cs := #[.int .i64 0, .int .i64 0]) ?_ 0 _ rfl; (with_reducible repeat (first | refine blk_drewN ?_ _ | refine blk_drew ?_ | refine blk_alloc ?_ _)); exact BK280.out) Try.underlying44 rfl (by kernel_rfl)) rfl ?_
                      exact ⟨_, by first | rfl | (simp [errW_none, errW_some] <;> rfl) | (simp only [← hji10, ← hji11]; first | rfl | (simp [errW_none, errW_some] <;> rfl)) | (simp [*, errW_none, errW_some] <;> rfl), by (with_reducible repeat (first | apply Kd.R_alloc | apply Kd.R_drewN | apply Kd.R_drew)); exact Kd.R_mono (Kd.R_far (p := ⟨gb280, 1, none⟩) (Kd.R_far (p := ⟨gb280, 0, none⟩) (Kd.R_types HO_8.out BK280.out (by decide)) (fun _ hk => hk.2) (.int .i64 t294)) (fun _ hk => hk.2) (.int .i64 t295)) (fun _ hk => trivial), by repeat (first | (with_reducible first | exact HB.out | apply below_alloc | apply pw_below_drewN | apply below_drew1 | refine below_set ?_ GE279.out | refine below_set ?_ GE280.out) | exact HB.out)⟩
        · rw [if_neg c13] at H
          exact absurd H (by simp)
      · rw [if_neg c12] at H
        exact absurd H (by simp)

end Go.Proofs.Ytjjnfjhhimijmaa.A
