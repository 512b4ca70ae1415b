/- The small case of layer 11 comes out right. -/
import Derived.Test.YtdnokmlonahmnaaHandAxle
namespace Go.Proofs.Ytdnokmlonahmnaa.A
open Go.RowKit Go.Proofs.YtdnokmlonahmnaaW.PrintWords Go.Proofs.YtdnokmlonahmnaaW.PrintLast Go.Proofs.YtdnokmlonahmnaaW.PrintMore
set_option linter.unusedVariables false
set_option linter.unusedSimpArgs false

theorem bcell {W w1 : World} (hb : Below W.heap.size W w1) : (∀ b o, b < W.heap.size → w1.cell? ⟨b, o, none⟩ = W.cell? ⟨b, o, none⟩) ∧ (∀ b o, b < W.heap.size → w1.frozen? ⟨b, o, none⟩ = W.frozen? ⟨b, o, none⟩) :=
  ⟨fun b o h => hb.cell (p := ⟨b, o, none⟩) h, fun b o h => hb.frozen (p := ⟨b, o, none⟩) h⟩

def crossbucklaw11_small.f : Option Bool := some true
set_option maxHeartbeats 4000000 in
set_option maxRecDepth 100000 in
theorem crossbucklaw11_small.calls (r : Bool) (w : World) (h : crossbucklaw11_small.f = some r) :
    Calls Try.prog 21 #[] w fun e w' => e = .returned (.bool r) ∧ Below w.heap.size w w' := by
  obtain rfl : true = r := Option.some.inj h
  clear h
  have hfield : ∀ (c0 c1 c2 c3 : Value) (W : World), (Instr.field 34 (.agg #[c0, c1, c2, c3]) 3).run Try.prog W = .ok c3 W := fun _ _ _ _ _ => by kernel_rfl
  go_enter Try.func21, Try.ntmps21
  go_wp2_with fail
  refine (axle_Step.at false 0 0 false 250 250 true 250 250 false _ (by decide +kernel)).mono ?_
  rintro e w' ⟨rfl, rfl⟩
  go_wp2_with fail
  refine (axle_Step.at true 250 250 false 2 250 true 2 250 false _ (by decide +kernel)).mono ?_
  rintro e w' ⟨rfl, rfl⟩
  go_wp2_with fail
  refine (axle_Step.at true 2 250 false 2 2 true 2 2 false _ (by decide +kernel)).mono ?_
  rintro e w' ⟨rfl, rfl⟩
  go_wp2_with fail
  refine (axle_Step.at true 250 250 false 250 251 true 250 251 true _ (by decide +kernel)).mono ?_
  rintro e w' ⟨rfl, rfl⟩
  go_wp2_with fail
  refine (axle_Step.at true 250 250 false 315 315 true 59 59 true _ (by decide +kernel)).mono ?_
  rintro e w' ⟨rfl, rfl⟩
  go_wp2_with fail
  refine (axle_Clear.at true 250 250 false true _ (by decide +kernel)).mono ?_
  rintro e w' ⟨rfl, rfl⟩
  go_wp2_with fail
  refine (axle_On.at true 2 250 false 8 _ (by decide +kernel)).mono ?_
  rintro e w' ⟨rfl, rfl⟩
  go_wp2_with fail
  refine (axle_Clear.at true 2 250 false false _ (by decide +kernel)).mono ?_
  rintro e w' ⟨rfl, rfl⟩
  go_wp2_with fail
  refine (axle_Clear.at true 2 2 false true _ (by decide +kernel)).mono ?_
  rintro e w' ⟨rfl, rfl⟩
  go_wp2_with fail
  refine (axle_Clear.at true 250 251 true false _ (by decide +kernel)).mono ?_
  rintro e w' ⟨rfl, rfl⟩
  go_wp2_with fail
  refine (axle_Reset.at true 59 59 true false _ (by decide +kernel)).mono ?_
  rintro e w' ⟨rfl, rfl⟩
  go_wp2_with fail
  refine (axle_Clear.at true 59 59 false true _ (by decide +kernel)).mono ?_
  rintro e w' ⟨rfl, rfl⟩
  go_wp2_with fail
  refine (axle_Reset.at true 250 251 true true _ (by decide +kernel)).mono ?_
  rintro e w' ⟨rfl, rfl⟩
  go_wp2_with fail
  refine (axle_Clear.at false 0 0 false false _ (by decide +kernel)).mono ?_
  rintro e w' ⟨rfl, rfl⟩
  go_wp2_with fail
  go_ret
  refine ⟨rfl, ?_⟩
  repeat (with_reducible first | exact Below.refl _ _ | apply below_alloc)
end Go.Proofs.Ytdnokmlonahmnaa.A
