/- What a signal's step is, in plain words. -/
import Derived.Test.YtllmckdmglacdaaAx8
import Derived.OpenShut
namespace Go.Proofs.Ytllmckdmglacdaa.Pure
open Go.RowKit Go.Proofs.Ytllmckdmglacdaa.A Go.Proofs.YtllmckdmglacdaaW.PrintWords Go.Proofs.YtllmckdmglacdaaW.PrintLast
set_option linter.unusedVariables false
set_option linter.unusedSimpArgs false
theorem small22_ev : Ev (fun k => crossbucklaw22_small.f k) true := Ev.of (k := 12) crossbucklaw22_small.mono (by decide +kernel)
theorem lstep_on (c : Bool) (h hold : Int) : lock_Step.f c h true hold = some (true, if hold < 0 then 0 else hold) := rfl
theorem lstep_off (c : Bool) (h hold : Int) : lock_Step.f c h false hold = some (false, if h < 1 then 0 else wrap64 (h - 1)) := rfl
theorem locked_eq (c : Bool) (h : Int) : lock_Locked.f c h = some (c || decide (h > 0)) := rfl
end Go.Proofs.Ytllmckdmglacdaa.Pure
