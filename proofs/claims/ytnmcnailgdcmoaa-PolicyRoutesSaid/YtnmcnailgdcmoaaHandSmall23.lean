/- The small case of layer 23 comes out right. -/
import Derived.Test.YtnmcnailgdcmoaaAx14
namespace Go.Proofs.Ytnmcnailgdcmoaa.A
open Go.RowKit Go.Proofs.YtnmcnailgdcmoaaW.PrintWords Go.Proofs.YtnmcnailgdcmoaaW.PrintLast Go.Proofs.YtnmcnailgdcmoaaW.PrintMore
def crossbucklaw23_small.f : Option Bool := some true
set_option maxRecDepth 100000 in
theorem crossbucklaw23_smallP.ends : crossbucklaw23_smallP.f 30 = some true := by kernel_rfl
theorem crossbucklaw23_small.calls (r : Bool) (w : World) (h : crossbucklaw23_small.f = some r) :
    Calls Try.prog 15 #[] w fun e w' => e = .returned (.bool r) ∧ Below w.heap.size w w' := by
  obtain rfl : true = r := Option.some.inj h
  exact crossbucklaw23_smallP.calls 30 w crossbucklaw23_smallP.ends
end Go.Proofs.Ytnmcnailgdcmoaa.A
