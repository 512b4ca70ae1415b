/- What a pair's step is, in plain words. -/
import Derived.Test.YtllmckdmglacdaaAx3
import Derived.Test.YtllmckdmglacdaaHandPair
import Derived.OpenShut
namespace Go.Proofs.Ytllmckdmglacdaa.Pure
open Go.RowKit Go.Proofs.Ytllmckdmglacdaa.A Go.Proofs.YtllmckdmglacdaaW.PrintWords Go.Proofs.YtllmckdmglacdaaW.PrintLast
set_option linter.unusedVariables false
set_option linter.unusedSimpArgs false
theorem small10_ev : Ev (fun k => crossbucklaw10_small.f k) true := Ev.of (k := 12) crossbucklaw10_small.mono (by decide +kernel)
def sp (lie pos : Int) (jump : Bool) (a : Int) : Int × Int × Bool := (a % 4, posN ((gray4 a - gray4 lie) % 4) pos, jump || decide ((gray4 a - gray4 lie) % 4 = 2))
theorem step_sp (lie pos : Int) (jump : Bool) (a : Int) : pair_Step.f lie pos jump a = some (sp lie pos jump a) := rfl
theorem and3 (x : Int) : bits .and .i64 x 3 = x % 4 := Arith.and3 x
theorem gray4_mod (x : Int) : gray4 (x % 4) = gray4 x := by unfold gray4; (repeat' split) <;> omega
theorem axles_eq (lie pos : Int) (jump : Bool) : pair_Axles.f lie pos jump = some (pos / 4) := rfl
theorem rest_eq (lie pos : Int) (jump : Bool) : pair_Rest.f lie pos jump = some (decide (lie % 4 = 0) && !jump) := by
  unfold pair_Rest.f
  rw [and3]
  by_cases h : lie % 4 = 0 <;> simp [h]
theorem way_lt (x y : Int) : 0 ≤ (gray4 x - gray4 y) % 4 ∧ (gray4 x - gray4 y) % 4 < 4 := by omega
/-- Where no end is near a step is one on, one back, or none. -/
theorem posN_eq (way pos : Int) (h : -9223372036854775800 ≤ pos ∧ pos ≤ 9223372036854775800) : posN way pos = if way = 1 then pos + 1 else if way = 3 then pos - 1 else pos := by
  unfold posN
  have e1 : wrap64 (pos + 1) = pos + 1 := by unfold wrap64; omega
  have e2 : wrap64 (pos - 1) = pos - 1 := by unfold wrap64; omega
  rw [if_pos (show pos < 9223372036854775807 by omega), if_pos (show -9223372036854775808 < pos by omega), e1, e2]

def dl (way : Int) : Int := if way = 1 then 1 else if way = 3 then -1 else 0
theorem sp_eq (lie pos : Int) (jump : Bool) (a : Int) (h : -9223372036854775800 ≤ pos ∧ pos ≤ 9223372036854775800) :
    sp lie pos jump a = (a % 4, pos + dl ((gray4 a - gray4 lie) % 4), jump || decide ((gray4 a - gray4 lie) % 4 = 2)) := by
  unfold sp
  rw [posN_eq _ _ h]
  unfold dl
  congr 2
  (repeat' split) <;> omega
theorem dl_lt (w : Int) : -1 ≤ dl w ∧ dl w ≤ 1 := by unfold dl; (repeat' split) <;> omega
theorem gray4_lt (x : Int) : 0 ≤ gray4 x ∧ gray4 x ≤ 3 := by rcases gray4_cases x with ⟨h, _⟩ | ⟨h, _⟩ | ⟨h, _⟩ | ⟨h, _⟩ <;> rw [h] <;> decide
theorem gray4_zero (x : Int) : gray4 x = 0 ↔ x % 4 = 0 := by rcases gray4_cases x with ⟨h, g⟩ | ⟨h, g⟩ | ⟨h, g⟩ | ⟨h, g⟩ <;> rw [h, g] <;> decide
end Go.Proofs.Ytllmckdmglacdaa.Pure
