/- The law AxleSame, walked: at any counters and any numbers it answers true. -/
import Derived.Test.YtdnokmlonahmnaaHandRef11
import Derived.Outline
import Derived.Deep.RegionHeld3
import Derived.Deep.DrawnRows
import Derived.Deep.QuietTactic
import Derived.BigQuiet
import Derived.BigRegion
import Derived.Deep.RegionWith
namespace Go.Proofs.Ytdnokmlonahmnaa.A
open Go.RowKit Go.Proofs.YtdnokmlonahmnaaW.PrintWords Go.Proofs.YtdnokmlonahmnaaW.PrintLast Go.Proofs.YtdnokmlonahmnaaW.PrintMore
set_option linter.unusedVariables false
set_option linter.unusedSimpArgs false
attribute [local go_sem] Quiet.bel_all
attribute [local go_sem ↓] Go.wp_at_zero Go.wp_at_succ
attribute [local go_sem high] eqA34
set_option maxHeartbeats 8000000 in
set_option maxRecDepth 100000 in
theorem same_many (w : World) (h : Bool) (i o : Int) (x : Bool) (a b m : Int) (y : Bool) (hm : decide (1099511627776 < m) = true) :
    Calls Try.prog 12 #[.agg #[.bool h, .int .i64 i, .int .i64 o, .bool x], .int .i64 a, .int .i64 b, .int .i64 m] w fun e w' => e = .returned (.bool true) ∧ Below w.heap.size w w' := by
  go_enter Try.func12, Try.ntmps12
  go_wp2_with fail
  refine (small11.bel _).mono ?_
  rintro e w1 ⟨rfl, hb1⟩
  have H1 := Aside0.mk hb1
  clear hb1
  go_wp2
  go_ret
  exact ⟨rfl, by repeat (with_reducible first | exact Below.refl _ _ | apply below_alloc | apply below_drew1 | apply pw_below_drewN | refine below_step ?_ H1.out)⟩
set_option maxHeartbeats 8000000 in
set_option maxRecDepth 100000 in
theorem same_few (w : World) (h : Bool) (i o : Int) (x : Bool) (a b m : Int) (y : Bool) (hm : decide (1099511627776 < m) = false) (hm2 : decide (m < -1099511627776) = true) :
    Calls Try.prog 12 #[.agg #[.bool h, .int .i64 i, .int .i64 o, .bool x], .int .i64 a, .int .i64 b, .int .i64 m] w fun e w' => e = .returned (.bool true) ∧ Below w.heap.size w w' := by
  go_enter Try.func12, Try.ntmps12
  go_wp2_with fail
  refine (small11.bel _).mono ?_
  rintro e w1 ⟨rfl, hb1⟩
  have H1 := Aside0.mk hb1
  clear hb1
  go_wp2
  go_ret
  exact ⟨rfl, by repeat (with_reducible first | exact Below.refl _ _ | apply below_alloc | apply below_drew1 | apply pw_below_drewN | refine below_step ?_ H1.out)⟩
theorem axle_Step.as (h : Bool) (i o : Int) (x : Bool) (a b : Int) (w : World) (p q : Int) (r : Bool) (hp : a % 256 = p) (hq : b % 256 = q) (hr : (x || (h && (decide (64 < ahead a i) || decide (64 < ahead b o))) || decide (128 ≤ ahead a b)) = r) :
    Calls Try.prog 22 #[.agg #[.bool h, .int .i64 i, .int .i64 o, .bool x], .int .i64 a, .int .i64 b] w fun e w' => e = .returned (.agg #[.bool true, .int .i64 p, .int .i64 q, .bool r]) ∧ Below w.heap.size w w' := by
  subst hp
  subst hq
  exact axle_Step.bel h i o x a b w r hr

set_option maxHeartbeats 8000000 in
set_option maxRecDepth 100000 in
theorem same_in (w : World) (h : Bool) (i o : Int) (x : Bool) (a b m : Int) (y : Bool) (hm : decide (1099511627776 < m) = false) (hm2 : decide (m < -1099511627776) = false)
    (h0 : axle_Step.f h i o x a b = some (true, a % 256, b % 256, y)) (h3 : (y || (true && (decide (64 < ahead a (a % 256)) || decide (64 < ahead b (b % 256)))) || decide (128 ≤ ahead a b)) = y) (h4 : (x || (h && (decide (64 < ahead (wrap64 (a + wrap64 (256 * m))) i) || decide (64 < ahead (wrap64 (b - wrap64 (256 * m))) o))) || decide (128 ≤ ahead (wrap64 (a + wrap64 (256 * m))) (wrap64 (b - wrap64 (256 * m))))) = y)
    (h5 : wrap64 (a + wrap64 (256 * m)) % 256 = a % 256) (h6 : wrap64 (b - wrap64 (256 * m)) % 256 = b % 256) (h7 : a % 256 % 256 = a % 256) (h8 : b % 256 % 256 = b % 256) (h9 : 0 ≤ a % 256) (h10 : a % 256 < 256) (h11 : 0 ≤ b % 256) (h12 : b % 256 < 256) :
    Calls Try.prog 12 #[.agg #[.bool h, .int .i64 i, .int .i64 o, .bool x], .int .i64 a, .int .i64 b, .int .i64 m] w fun e w' => e = .returned (.bool true) ∧ Below w.heap.size w w' := by
  have HS := Aside0.mk h0
  have HX := Aside0.mk h3
  have HY := Aside0.mk h4
  have H5 := Aside0.mk h5
  have H6 := Aside0.mk h6
  clear h0 h3 h4 h5 h6 h7 h8
  go_enter Try.func12, Try.ntmps12
  go_wp2_with fail
  refine (small11.bel _).mono ?_
  rintro e w1 ⟨rfl, hb1⟩
  have H1 := Aside0.mk hb1
  have hc0 : w1.cell? ⟨w.heap.size, 0, none⟩ = some (.bool h) := (Below.cell (p := ⟨w.heap.size, 0, none⟩) hb1 (by simp)).trans (by go_simp)
  have hc1 : w1.cell? ⟨w.heap.size, 1, none⟩ = some (.int .i64 i) := (Below.cell (p := ⟨w.heap.size, 1, none⟩) hb1 (by simp)).trans (by go_simp)
  have hc2 : w1.cell? ⟨w.heap.size, 2, none⟩ = some (.int .i64 o) := (Below.cell (p := ⟨w.heap.size, 2, none⟩) hb1 (by simp)).trans (by go_simp)
  have hc3 : w1.cell? ⟨w.heap.size, 3, none⟩ = some (.bool x) := (Below.cell (p := ⟨w.heap.size, 3, none⟩) hb1 (by simp)).trans (by go_simp)
  have hz := hb1.size
  simp at hz
  clear hb1
  go_wp2_with fail
  refine (axle_Step.at _ _ _ _ _ _ _ _ _ _ _ HS.out).mono ?_
  rintro e w' ⟨rfl, rfl⟩
  go_wp2_with fail
  refine Quiet.start (fun w' => w'.cell? ⟨w.heap.size, 0, none⟩ = some (.bool h) ∧ w'.cell? ⟨w.heap.size, 1, none⟩ = some (.int .i64 i) ∧ w'.cell? ⟨w.heap.size, 2, none⟩ = some (.int .i64 o) ∧ w'.cell? ⟨w.heap.size, 3, none⟩ = some (.bool x) ∧ w'.cell? ⟨w1.heap.size + 1 + 1, 0, none⟩ = some (.bool true) ∧ w'.cell? ⟨w1.heap.size + 1 + 1, 1, none⟩ = some (.int .i64 (a % 256)) ∧ w'.cell? ⟨w1.heap.size + 1 + 1, 2, none⟩ = some (.int .i64 (b % 256)) ∧ w'.cell? ⟨w1.heap.size + 1 + 1, 3, none⟩ = some (.bool y)) (by kernel_rfl) (by kernel_rfl) (fun w' b => ⟨b.cell (pw_cell_below (by repeat (with_reducible first | exact Below.refl _ _ | apply below_alloc)) hc0), b.cell (pw_cell_below (by repeat (with_reducible first | exact Below.refl _ _ | apply below_alloc)) hc1), b.cell (pw_cell_below (by repeat (with_reducible first | exact Below.refl _ _ | apply below_alloc)) hc2), b.cell (pw_cell_below (by repeat (with_reducible first | exact Below.refl _ _ | apply below_alloc)) hc3), b.cell (by go_simp), b.cell (by go_simp), b.cell (by go_simp), b.cell (by go_simp)⟩) (fun W0 hW0 hcell => ?_)
  repeat (first
    | go_big_quiet_skip
    | (go_big_quiet_want; go_big_quiet_op; go_big_quiet_on)
    | (refine Quiet.val _ _ (by rfl) (by (intro w' hC; obtain ⟨c0, c1, c2, c3, c4, c5, c6, c7⟩ := hcell w' hC; go_simp; with_reducible rfl)) (by (simp only [Act.put, List.setIfInBounds_toArray, List.set_cons_zero, List.set_cons_succ]; rfl)) ?_)
    | (refine Quiet.call _ _ (by rfl) (by rfl) Try.func22 (by kernel_rfl) rfl (by simp only [List.map_toArray, List.map_cons, List.map_nil]; rfl) (fun w' hC => axle_Step.as _ _ _ _ _ _ w' _ _ y (by first | exact H5.out | rfl) (by first | exact H6.out | rfl) (by first | exact HY.out | exact HX.out)) (by (simp only [Act.put, List.setIfInBounds_toArray, List.set_cons_zero, List.set_cons_succ]; rfl)) ?_))
  refine Quiet.done ?_
  intro w2 hbw2
  go_wp2
  go_ret
  exact ⟨by simp [H5.out, H6.out, h9, h10, h11, h12], Quiet.Bel.out (by repeat (with_reducible first | exact Below.refl _ _ | apply below_alloc | apply below_drew1 | apply pw_below_drewN | refine below_step ?_ H1.out)) hW0 hbw2⟩

theorem AxleSame.walk (w : World) (h : Bool) (i o : Int) (x : Bool) (a b m : Int) (wf0 : (Lit.int .i64 i).wf = true) (wf1 : (Lit.int .i64 o).wf = true) (wf2 : (Lit.int .i64 a).wf = true) (wf3 : (Lit.int .i64 b).wf = true) (wf4 : (Lit.int .i64 m).wf = true) :
    Calls Try.prog 12 #[.agg #[.bool h, .int .i64 i, .int .i64 o, .bool x], .int .i64 a, .int .i64 b, .int .i64 m] w fun e w' => e = .returned (.bool true) ∧ Below w.heap.size w w' := by
  by_cases g1 : 1099511627776 < m
  · exact same_many w h i o x a b m true (decide_eq_true g1)
  · by_cases g2 : m < -1099511627776
    · exact same_few w h i o x a b m true (decide_eq_false g1) (decide_eq_true g2)
    · have e1 : wrap64 (a + wrap64 (256 * m)) % 256 = a % 256 := by unfold wrap64; omega
      have e2 : wrap64 (b - wrap64 (256 * m)) % 256 = b % 256 := by unfold wrap64; omega
      have f1 : ∀ c, ahead (wrap64 (a + wrap64 (256 * m))) c = ahead a c := fun c => by unfold ahead; omega
      have f2 : ∀ c, ahead (wrap64 (b - wrap64 (256 * m))) c = ahead b c := fun c => by unfold ahead; omega
      have f3 : ∀ c, ahead c (wrap64 (b - wrap64 (256 * m))) = ahead c b := fun c => by unfold ahead; omega
      have f4 : ahead a (a % 256) = 0 := by unfold ahead; omega
      have f5 : ahead b (b % 256) = 0 := by unfold ahead; omega
      refine same_in w h i o x a b m _ (decide_eq_false g1) (decide_eq_false g2) rfl ?_ ?_ e1 e2 (by omega) (by omega) (by omega) (by omega) (by omega) (by omega)
      · rw [f4, f5]
        cases x <;> cases h <;> simp
      · rw [f1, f2, f3, f1]

end Go.Proofs.Ytdnokmlonahmnaa.A
