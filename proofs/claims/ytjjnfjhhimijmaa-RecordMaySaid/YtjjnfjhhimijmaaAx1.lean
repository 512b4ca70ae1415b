/- Each function's own law: what the call answers, as a plain Lean function; a text that a program of this session wrote. -/
import Derived.Test.YtjjnfjhhimijmaaAx0
namespace Go.Proofs.Ytjjnfjhhimijmaa.A
open Go.RowKit Go.Proofs.YtjjnfjhhimijmaaW.PrintWords Go.Proofs.YtjjnfjhhimijmaaW.PrintLast Go.Proofs.YtjjnfjhhimijmaaW.PrintMore
attribute [local go_sem] max2_int min2_int max_two min_two max_three min_three max_four min_four   -- for this text's walks alone
set_option linter.unusedVariables false
set_option linter.unusedSimpArgs false

theorem eqA31 (d : Nat) (w : World) (x0 y0 : Bool) (x1 y1 : Bool) :
    (Op.equalIn (d + 2) 31 (.agg #[.bool x0, .bool x1]) (.agg #[.bool y0, .bool y1])).run Try.prog w = .ok (x0 == y0 && (x1 == y1)) w := by
  refine eqA_of Try.underlying31 (by kernel_rfl) ?_
  refine eqf_cons (by rfl) (by go_simp; rfl) (by go_simp; rfl) (by go_simp) ?_
  exact eqf_last (by rfl) (by go_simp; rfl) (by go_simp; rfl) (by go_simp)
end Go.Proofs.Ytjjnfjhhimijmaa.A
