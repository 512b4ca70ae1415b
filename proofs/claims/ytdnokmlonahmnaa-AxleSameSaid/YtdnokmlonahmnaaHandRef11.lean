/- What the calls of package axle, and of its reference, answer: nothing that was there is touched. -/
import Derived.Test.YtdnokmlonahmnaaHandSmall11
import Derived.Test.YtdnokmlonahmnaaQuiet
import Derived.Test.YtdnokmlonahmnaaArith
import Derived.Test.YtdnokmlonahmnaaAx1
import Derived.Outline
import Derived.Deep.RegionHeld3
import Derived.Deep.DrawnRows
import Derived.Deep.QuietTactic
import Derived.BigQuiet
import Derived.BigRegion
import Derived.Deep.RegionWith
namespace Go.Proofs.Ytdnokmlonahmnaa.A
open Go.RowKit Go.Proofs.YtdnokmlonahmnaaW.PrintWords Go.Proofs.YtdnokmlonahmnaaW.PrintLast Go.Proofs.YtdnokmlonahmnaaW.PrintMore
set_option linter.unusedVariables false
set_option linter.unusedSimpArgs false
attribute [local go_sem] Quiet.bel_all
attribute [local go_sem ↓] Go.wp_at_zero Go.wp_at_succ

theorem axle_Step.bel (h : Bool) (i o : Int) (x : Bool) (a b : Int) (w : World) (r : Bool) (hr : (x || (h && (decide (64 < ahead a i) || decide (64 < ahead b o))) || decide (128 ≤ ahead a b)) = r) :
    Calls Try.prog 22 #[.agg #[.bool h, .int .i64 i, .int .i64 o, .bool x], .int .i64 a, .int .i64 b] w fun e w' => e = .returned (.agg #[.bool true, .int .i64 (a % 256), .int .i64 (b % 256), .bool r]) ∧ Below w.heap.size w w' := by
  subst hr
  exact axle_Step.calls _ _ _ _ _ _ _ _ _ _ w rfl
theorem axle_On.bel (h : Bool) (i o : Int) (x : Bool) (w : World) :
    Calls Try.prog 24 #[.agg #[.bool h, .int .i64 i, .int .i64 o, .bool x]] w fun e w' => e = .returned (.int .i64 (ahead i o)) ∧ Below w.heap.size w w' :=
  (axle_On.at _ _ _ _ _ w rfl).mono fun _ _ ⟨he, hw⟩ => ⟨he, hw ▸ below_alloc (Below.refl _ _) _⟩
theorem axle_Clear.bel (h : Bool) (i o : Int) (x : Bool) (w : World) :
    Calls Try.prog 26 #[.agg #[.bool h, .int .i64 i, .int .i64 o, .bool x]] w fun e w' => e = .returned (.bool (h && !x && (ahead i o == 0))) ∧ Below w.heap.size w w' :=
  (axle_Clear.at _ _ _ _ _ w rfl).mono fun _ _ ⟨he, hw⟩ => ⟨he, by rw [hw]; split <;> repeat (with_reducible first | exact Below.refl _ _ | apply below_alloc)⟩
theorem axle_Reset.bel (h : Bool) (i o : Int) (x : Bool) (w : World) :
    Calls Try.prog 28 #[.agg #[.bool h, .int .i64 i, .int .i64 o, .bool x]] w fun e w' => e = .returned (.agg #[.bool h, .int .i64 i, .int .i64 o, .bool (x && (ahead i o != 0))]) ∧ Below w.heap.size w w' :=
  (axle_Reset.at _ _ _ _ _ w rfl).mono fun _ _ ⟨he, hw⟩ => ⟨he, by rw [hw]; split <;> repeat (with_reducible first | exact Below.refl _ _ | apply below_alloc)⟩
theorem small11.bel (w : World) : Calls Try.prog 21 #[] w fun e w' => e = .returned (.bool true) ∧ Below w.heap.size w w' := crossbucklaw11_small.calls true w rfl

theorem rmod.at (a : Int) (w : World) : Calls Try.prog 31 #[.int .i64 a] w fun e w' => e = .returned (.int .i64 (a % 256)) ∧ w = w' := by
  go_enter Try.func31, Try.ntmps31
  go_wp2
  go_ret
  exact ⟨by simp [Arith.and255], rfl⟩

theorem sub_mod (a b : Int) : wrap64 (a % 256 - b) % 256 = ahead a b := by unfold wrap64 ahead; omega
theorem sub_mod2 (a b : Int) : wrap64 (a - b) % 256 = ahead a b := by unfold wrap64 ahead; omega
theorem sub_modx (a b : Int) : (a % 256 - b) % 256 = ahead a b := by unfold ahead; omega

theorem rON.bel (h : Bool) (i o : Int) (x : Bool) (w : World) :
    Calls Try.prog 25 #[.agg #[.bool h, .int .i64 i, .int .i64 o, .bool x]] w fun e w' => e = .returned (.int .i64 (ahead i o)) ∧ w' = w.alloc (.cells #[.bool h, .int .i64 i, .int .i64 o, .bool x] 34) := by
  go_enter Try.func25, Try.ntmps25
  go_wp2_with (go_at_call 31; refine (rmod.at _ _).mono ?_; rintro e w' ⟨rfl, rfl⟩)
  go_ret
  exact ⟨by simp [sub_mod2], rfl⟩
theorem rCL.bel (h : Bool) (i o : Int) (x : Bool) (w : World) :
    Calls Try.prog 27 #[.agg #[.bool h, .int .i64 i, .int .i64 o, .bool x]] w fun e w' => e = .returned (.bool (h && !x && (ahead i o == 0))) ∧ Below w.heap.size w w' := by
  cases h <;> cases x
  all_goals
    go_enter Try.func27, Try.ntmps27
    go_wp2_with (go_at_call 25; refine (rON.bel _ _ _ _ _).mono ?_; rintro e w' ⟨rfl, rfl⟩)
    go_ret
    exact ⟨by simp, by repeat (with_reducible first | exact Below.refl _ _ | apply below_alloc)⟩
theorem rRE.bel (h : Bool) (i o : Int) (x : Bool) (w : World) :
    Calls Try.prog 29 #[.agg #[.bool h, .int .i64 i, .int .i64 o, .bool x]] w fun e w' => e = .returned (.agg #[.bool h, .int .i64 i, .int .i64 o, .bool (x && (ahead i o != 0))]) ∧ Below w.heap.size w w' := by
  rcases Bool.eq_false_or_eq_true (ahead i o == 0) with h1 | h1
  · have h2 : (ahead i o != 0) = false := by simp [bne, h1]
    go_enter Try.func29, Try.ntmps29
    go_wp2_with (go_at_call 25; refine (rON.bel _ _ _ _ _).mono ?_; rintro e w' ⟨rfl, rfl⟩)
    exact bodyPost_ret (v := .agg #[.bool h, .int .i64 i, .int .i64 o, .bool false]) (by simp [results, Try.results29, go_sem]) rfl ⟨by simp [h2], by repeat (with_reducible first | exact Below.refl _ _ | apply below_alloc)⟩
  · have h2 : (ahead i o != 0) = true := by simp [bne, h1]
    go_enter Try.func29, Try.ntmps29
    go_wp2_with (go_at_call 25; refine (rON.bel _ _ _ _ _).mono ?_; rintro e w' ⟨rfl, rfl⟩)
    exact bodyPost_ret (v := .agg #[.bool h, .int .i64 i, .int .i64 o, .bool x]) (by simp [results, Try.results29, go_sem]) rfl ⟨by simp [h2], by repeat (with_reducible first | exact Below.refl _ _ | apply below_alloc)⟩

set_option maxHeartbeats 4000000 in
set_option maxRecDepth 100000 in
theorem rST.bel (h : Bool) (i o : Int) (x : Bool) (a b : Int) (w : World) :
    Calls Try.prog 23 #[.agg #[.bool h, .int .i64 i, .int .i64 o, .bool x], .int .i64 a, .int .i64 b] w fun e w' =>
      e = .returned (.agg #[.bool true, .int .i64 (a % 256), .int .i64 (b % 256), .bool (x || (h && (decide (64 < ahead a i) || decide (64 < ahead b o))) || decide (128 ≤ ahead a b))]) ∧ Below w.heap.size w w' := by
  obtain ⟨p, hp⟩ : ∃ p, wrap64 (a % 256 - i) % 256 = p := ⟨_, rfl⟩
  obtain ⟨q, hq⟩ : ∃ q, wrap64 (b % 256 - o) % 256 = q := ⟨_, rfl⟩
  obtain ⟨r, hr⟩ : ∃ r, (a % 256 - b % 256) % 256 = r := ⟨_, rfl⟩
  have ep : ahead a i = p := (sub_mod a i).symm.trans hp
  have eq' : ahead b o = q := (sub_mod b o).symm.trans hq
  have er : ahead a b = r := by rw [← hr]; unfold ahead; omega
  rw [ep, eq', er]
  clear ep eq' er
  have go : ∀ (h1v h2v h3v y : Bool), decide (64 < p) = h1v → decide (64 < q) = h2v → decide (128 ≤ r) = h3v → ((h = false ∧ y = (x || h3v)) ∨ (h = true ∧ h1v = true ∧ y = true) ∨ (h = true ∧ h1v = false ∧ h2v = true ∧ y = true) ∨ (h = true ∧ h1v = false ∧ h2v = false ∧ y = (x || h3v))) →
      Calls Try.prog 23 #[.agg #[.bool h, .int .i64 i, .int .i64 o, .bool x], .int .i64 a, .int .i64 b] w fun e w' =>
        e = .returned (.agg #[.bool true, .int .i64 (a % 256), .int .i64 (b % 256), .bool y]) ∧ Below w.heap.size w w' := by
    intro h1v h2v h3v y h1 h2 h3 hc
    rcases hc with ⟨rfl, rfl⟩ | ⟨rfl, rfl, rfl⟩ | ⟨rfl, rfl, rfl, rfl⟩ | ⟨rfl, rfl, rfl, rfl⟩
    · cases h3v
      all_goals
        simp only [Bool.or_true, Bool.or_false]
        go_enter Try.func23, Try.ntmps23
        go_wp2_with fail
        go_region_with (go_at_call 31; refine (rmod.at _ _).mono ?_; rintro e w' ⟨rfl, rfl⟩)
        all_goals
          go_wp2_with (go_at_call 31; refine (rmod.at _ _).mono ?_; rintro e w' ⟨rfl, rfl⟩)
          first
            | exact bodyPost_ret (v := .agg #[.bool true, .int .i64 (a % 256), .int .i64 (b % 256), .bool true]) (by simp [results, Try.results23, go_sem]) rfl ⟨rfl, by repeat (with_reducible first | exact Below.refl _ _ | apply below_alloc | apply below_drew1 | apply pw_below_drewN)⟩
            | exact bodyPost_ret (v := .agg #[.bool true, .int .i64 (a % 256), .int .i64 (b % 256), .bool x]) (by simp [results, Try.results23, go_sem]) rfl ⟨rfl, by repeat (with_reducible first | exact Below.refl _ _ | apply below_alloc | apply below_drew1 | apply pw_below_drewN)⟩
    · go_enter Try.func23, Try.ntmps23
      go_wp2_with fail
      go_region_with (go_at_call 31; refine (rmod.at _ _).mono ?_; rintro e w' ⟨rfl, rfl⟩)
      all_goals
        go_wp2_with (go_at_call 31; refine (rmod.at _ _).mono ?_; rintro e w' ⟨rfl, rfl⟩)
        exact bodyPost_ret (v := .agg #[.bool true, .int .i64 (a % 256), .int .i64 (b % 256), .bool true]) (by simp [results, Try.results23, go_sem]) rfl ⟨rfl, by repeat (with_reducible first | exact Below.refl _ _ | apply below_alloc | apply below_drew1 | apply pw_below_drewN)⟩
    · go_enter Try.func23, Try.ntmps23
      go_wp2_with fail
      go_region_with (go_at_call 31; refine (rmod.at _ _).mono ?_; rintro e w' ⟨rfl, rfl⟩)
      all_goals
        go_wp2_with (go_at_call 31; refine (rmod.at _ _).mono ?_; rintro e w' ⟨rfl, rfl⟩)
        exact bodyPost_ret (v := .agg #[.bool true, .int .i64 (a % 256), .int .i64 (b % 256), .bool true]) (by simp [results, Try.results23, go_sem]) rfl ⟨rfl, by repeat (with_reducible first | exact Below.refl _ _ | apply below_alloc | apply below_drew1 | apply pw_below_drewN)⟩
    · cases h3v
      all_goals
        simp only [Bool.or_true, Bool.or_false]
        go_enter Try.func23, Try.ntmps23
        go_wp2_with fail
        go_region_with (go_at_call 31; refine (rmod.at _ _).mono ?_; rintro e w' ⟨rfl, rfl⟩)
        all_goals
          go_wp2_with (go_at_call 31; refine (rmod.at _ _).mono ?_; rintro e w' ⟨rfl, rfl⟩)
          first
            | exact bodyPost_ret (v := .agg #[.bool true, .int .i64 (a % 256), .int .i64 (b % 256), .bool true]) (by simp [results, Try.results23, go_sem]) rfl ⟨rfl, by repeat (with_reducible first | exact Below.refl _ _ | apply below_alloc | apply below_drew1 | apply pw_below_drewN)⟩
            | exact bodyPost_ret (v := .agg #[.bool true, .int .i64 (a % 256), .int .i64 (b % 256), .bool x]) (by simp [results, Try.results23, go_sem]) rfl ⟨rfl, by repeat (with_reducible first | exact Below.refl _ _ | apply below_alloc | apply below_drew1 | apply pw_below_drewN)⟩
  refine go _ _ _ _ rfl rfl rfl ?_
  cases h <;> cases decide (64 < p) <;> cases decide (64 < q) <;> simp
end Go.Proofs.Ytdnokmlonahmnaa.A
