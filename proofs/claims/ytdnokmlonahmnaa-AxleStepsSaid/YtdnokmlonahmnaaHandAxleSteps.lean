/- The law AxleSteps, walked: at any counters and any numbers it answers true. -/
import Derived.Test.YtdnokmlonahmnaaHandRef11
import Derived.Outline
import Derived.Deep.RegionHeld3
import Derived.Deep.DrawnRows
import Derived.Deep.QuietTactic
import Derived.BigQuiet
import Derived.BigRegion
import Derived.Deep.RegionWith
namespace Go.Proofs.Ytdnokmlonahmnaa.A
open Go.RowKit Go.Proofs.YtdnokmlonahmnaaW.PrintWords Go.Proofs.YtdnokmlonahmnaaW.PrintLast Go.Proofs.YtdnokmlonahmnaaW.PrintMore
set_option linter.unusedVariables false
set_option linter.unusedSimpArgs false
attribute [local go_sem] Quiet.bel_all
attribute [local go_sem ↓] Go.wp_at_zero Go.wp_at_succ
attribute [local go_sem high] eqA34
set_option maxHeartbeats 8000000 in
set_option maxRecDepth 100000 in
theorem AxleSteps.walk (w : World) (h : Bool) (i o : Int) (x : Bool) (a b : Int) (w0 : (Lit.int .i64 i).wf = true) (w1 : (Lit.int .i64 o).wf = true) (w2 : (Lit.int .i64 a).wf = true) (w3 : (Lit.int .i64 b).wf = true) :
    Calls Try.prog 8 #[.agg #[.bool h, .int .i64 i, .int .i64 o, .bool x], .int .i64 a, .int .i64 b] w fun e w' => e = .returned (.bool true) ∧ Below w.heap.size w w' := by
  clear w0 w1 w2 w3
  go_enter Try.func8, Try.ntmps8
  go_wp2_with fail
  refine (small11.bel _).mono ?_
  rintro e w1 ⟨rfl, hb1⟩
  have H1 := Aside0.mk hb1
  have hc0 : w1.cell? ⟨w.heap.size, 0, none⟩ = some (.bool h) := (Below.cell (p := ⟨w.heap.size, 0, none⟩) hb1 (by simp)).trans (by go_simp)
  have hc1 : w1.cell? ⟨w.heap.size, 1, none⟩ = some (.int .i64 i) := (Below.cell (p := ⟨w.heap.size, 1, none⟩) hb1 (by simp)).trans (by go_simp)
  have hc2 : w1.cell? ⟨w.heap.size, 2, none⟩ = some (.int .i64 o) := (Below.cell (p := ⟨w.heap.size, 2, none⟩) hb1 (by simp)).trans (by go_simp)
  have hc3 : w1.cell? ⟨w.heap.size, 3, none⟩ = some (.bool x) := (Below.cell (p := ⟨w.heap.size, 3, none⟩) hb1 (by simp)).trans (by go_simp)
  clear hb1
  go_wp2_with fail
  refine Quiet.start (fun w' => w'.cell? ⟨w.heap.size, 0, none⟩ = some (.bool h) ∧ w'.cell? ⟨w.heap.size, 1, none⟩ = some (.int .i64 i) ∧ w'.cell? ⟨w.heap.size, 2, none⟩ = some (.int .i64 o) ∧ w'.cell? ⟨w.heap.size, 3, none⟩ = some (.bool x)) (by kernel_rfl) (by kernel_rfl) (fun w' h => ⟨h.cell (by first | assumption | go_simp), h.cell (by first | assumption | go_simp), h.cell (by first | assumption | go_simp), h.cell (by first | assumption | go_simp)⟩) (fun W0 hW0 hcell => ?_)
  repeat (first
    | go_big_quiet_skip
    | (go_big_quiet_want; go_big_quiet_op; go_big_quiet_on)
    | (refine Quiet.val _ _ (by rfl) (by (intro w' hC; obtain ⟨c0, c1, c2, c3⟩ := hcell w' hC; go_simp; with_reducible rfl)) (by (simp only [Act.put, List.setIfInBounds_toArray, List.set_cons_zero, List.set_cons_succ]; rfl)) ?_)
    | (refine Quiet.call _ _ (by rfl) (by rfl) Try.func22 (by kernel_rfl) rfl (by simp only [List.map_toArray, List.map_cons, List.map_nil]; rfl) (fun w' hC => axle_Step.bel _ _ _ _ _ _ _ _ rfl) (by (simp only [Act.put, List.setIfInBounds_toArray, List.set_cons_zero, List.set_cons_succ]; rfl)) ?_)
    | (refine Quiet.call _ _ (by rfl) (by rfl) Try.func23 (by kernel_rfl) rfl (by simp only [List.map_toArray, List.map_cons, List.map_nil]; rfl) (fun w' hC => rST.bel _ _ _ _ _ _ _) (by (simp only [Act.put, List.setIfInBounds_toArray, List.set_cons_zero, List.set_cons_succ]; rfl)) ?_)
    | (refine Quiet.call _ _ (by rfl) (by rfl) Try.func24 (by kernel_rfl) rfl (by simp only [List.map_toArray, List.map_cons, List.map_nil]; rfl) (fun w' hC => axle_On.bel _ _ _ _ _) (by (simp only [Act.put, List.setIfInBounds_toArray, List.set_cons_zero, List.set_cons_succ]; rfl)) ?_)
    | (refine Quiet.call _ _ (by rfl) (by rfl) Try.func25 (by kernel_rfl) rfl (by simp only [List.map_toArray, List.map_cons, List.map_nil]; rfl) (fun w' hC => (rON.bel _ _ _ _ _).mono fun _ _ hh => ⟨hh.1, hh.2 ▸ below_alloc (Below.refl _ _) _⟩) (by (simp only [Act.put, List.setIfInBounds_toArray, List.set_cons_zero, List.set_cons_succ]; rfl)) ?_)
    | (refine Quiet.call _ _ (by rfl) (by rfl) Try.func26 (by kernel_rfl) rfl (by simp only [List.map_toArray, List.map_cons, List.map_nil]; rfl) (fun w' hC => axle_Clear.bel _ _ _ _ _) (by (simp only [Act.put, List.setIfInBounds_toArray, List.set_cons_zero, List.set_cons_succ]; rfl)) ?_)
    | (refine Quiet.call _ _ (by rfl) (by rfl) Try.func27 (by kernel_rfl) rfl (by simp only [List.map_toArray, List.map_cons, List.map_nil]; rfl) (fun w' hC => rCL.bel _ _ _ _ _) (by (simp only [Act.put, List.setIfInBounds_toArray, List.set_cons_zero, List.set_cons_succ]; rfl)) ?_)
    | (refine Quiet.call _ _ (by rfl) (by rfl) Try.func28 (by kernel_rfl) rfl (by simp only [List.map_toArray, List.map_cons, List.map_nil]; rfl) (fun w' hC => axle_Reset.bel _ _ _ _ _) (by (simp only [Act.put, List.setIfInBounds_toArray, List.set_cons_zero, List.set_cons_succ]; rfl)) ?_)
    | (refine Quiet.call _ _ (by rfl) (by rfl) Try.func29 (by kernel_rfl) rfl (by simp only [List.map_toArray, List.map_cons, List.map_nil]; rfl) (fun w' hC => rRE.bel _ _ _ _ _) (by (simp only [Act.put, List.setIfInBounds_toArray, List.set_cons_zero, List.set_cons_succ]; rfl)) ?_))
  refine Quiet.done ?_
  intro w2 hbw2
  go_wp2
  go_ret
  exact ⟨by simp, Quiet.Bel.out (by repeat (with_reducible first | exact Below.refl _ _ | apply below_alloc | apply below_drew1 | apply pw_below_drewN | refine below_step ?_ H1.out)) hW0 hbw2⟩

end Go.Proofs.Ytdnokmlonahmnaa.A
