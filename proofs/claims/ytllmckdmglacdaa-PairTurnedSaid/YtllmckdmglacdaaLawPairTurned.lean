/- The law crossbuck/crossbucklaw10.PairTurned holds of the given program at every input: no condition. -/
import Derived.Test.YtllmckdmglacdaaRows
import Derived.Test.YtllmckdmglacdaaFlat
import Derived.Test.YtllmckdmglacdaaPurePairTurned
import Derived.WalkKit
import Derived.ProofKit
import Derived.OpenShut
import Derived.ShutString
import Derived.ChangeOld
import Derived.Below
import Derived.SizedLaws
namespace Go.Proofs.Ytllmckdmglacdaa.pairTurned
open Go.ChangeShapes Go.WideShapes Go.ChangeAt Go.RowKit Go.Proofs.YtllmckdmglacdaaW.PrintWords Go.Proofs.YtllmckdmglacdaaW.PrintLast Go.Proofs.Ytllmckdmglacdaa.A
set_option linter.unusedVariables false
set_option linter.unusedSimpArgs false
theorem own : ownKnob Try.prog.godebug = none := by kernel_rfl
theorem laidOut : laidOutB Try.prog = true := by kernel_rfl
set_option maxRecDepth 100000 in
theorem lifted (os : Os) (started : os.Started) (H : Type) (enc : TypeId × Value → H) :
    ReturnsInHanded {} Try.checked os 8 .any (Rows.pairTurnedSpec.pre6 enc Try.prog Try.f8 Rows.pairTurnedRow.domain false) (Rows.pairTurnedSpec.post enc Try.prog Try.f8 false true false false) := by
  refine returnsInHanded_of_change_sized (C := Try.checked) own started (by kernel_rfl) Try.func8
    (ChangeSpec.witness6 (enc := enc) (C := Try.checked) false ⟨#[], #[.slice none 0 0], []⟩ 8 (by kernel_rfl) (by kernel_rfl) (by kernel_rfl) (by kernel_rfl)) ?_
  intro W base args ds gs before hval0 hW hcnd hsz0 _
  have hval : ∀ (j : Nat) t v, Try.f8.params[j]? = some t → args[j]? = some v → Value.okWide Try.prog W .any base t v := hval0
  have hW' := hW
  obtain ⟨p, q, hA0, hV, rfl, hfz, hnd⟩ := hW
  have hA : DataW.TrodAll enc Try.prog W 0 (fun _ => true) true Try.f8.params.toList args.toList ds p := hA0
  rw [Try.params8] at hA hval
  obtain ⟨v0, vs0, d0, ds0, p0, q0, hargs, rfl, rfl, h0, r0⟩ := trodAll_cons hA
  obtain ⟨rfl, rfl, rfl⟩ := trodAll_nil r0
  obtain rfl : args = #[v0] := by cases args; simp_all
  obtain ⟨rfl, rfl⟩ := trodVars_none hV
  have k0 := h0
  have lt0 : ∀ x ∈ p0, x.block < W.heap.size := by obtain ⟨m, hm⟩ := k0; exact DataW.trod_lt m _ _ _ hm
  obtain ⟨A0, len0, c0, rfl⟩ := okWide_slice Try.underlying29 (hval 0 29 v0 rfl rfl)
  have mk0 : ∀ cs, Flat.Fits [.int .i64] cs → ∃ x : Int, (Kd.int .i64).K W x cs ∧ ((Lit.int .i64 x).wf = true) := by
    intro cs ft0
    obtain ⟨_, _, rfl, ⟨a0, rfl, w0⟩, ft1⟩ := ft0.cons
    clear ft0
    obtain rfl := ft1.nil
    exact ⟨a0, rfl, w0⟩
  obtain ⟨hle0, _, l0, R0⟩ := Flat.open_rows (n := 8) (sz := 1) (ls := [.int .i64]) Try.underlying29 (by kernel_rfl) (by kernel_rfl) mk0 h0
  obtain rfl : l0.length = len0 := R0.1
  have ok0 : ∀ x ∈ l0, ((Lit.int .i64 x).wf = true) := by
    intro x hx
    obtain ⟨j, hj, rfl⟩ := List.getElem_of_mem hx
    obtain ⟨_, _, hc⟩ := R0.2.2 (by omega)
    obtain ⟨_, _, hk, _⟩ := hc j _ (List.getElem?_eq_getElem hj)
    exact hk.2
  have C0 : Kd.C (Kd.int .i64) W A0 l0.length l0 := R0.imp_ (Below.refl _ _) (fun _ _ hk => hk.1)
  clear hA0 hval0 hsz0
  obtain ⟨k, hp⟩ := Pure.PairTurned l0 ok0
  refine (crossbucklaw10_PairTurned.calls k A0 c0 l0 true W C0 hle0 hp).mono fun e W' ⟨he, bel⟩ => ?_
  subst he
  exact ⟨_, rfl, _, _, _, [], _, [], hW', trodAll_mk1 (shut_bool Try.underlying4 _), (trodAll_cons_mk (Below.trod laidOut (by kernel_rfl) (of_decide_eq_true (by kernel_rfl)) k0 bel lt0) trodAll_mk0), rfl, bel.frame _, fun h => by cases h⟩
theorem over : Rows.pairTurnedRow.holds Try.pinned (OpenSpec.ofChange Rows.pairTurnedSpec) :=
  OpenClaim.holds_of_wide 8 Try.f8 rfl rfl rfl rfl rfl rfl rfl ⟨rfl, rfl, rfl, rfl, rfl⟩ rfl rfl rfl rfl rfl (by kernel_rfl) Try.func8 (by kernel_rfl)
    (of_decide_eq_true (by kernel_rfl)) (by unfold Func.isWrapper; first | (rw [if_pos (by decide +kernel)]; kernel_rfl) | (rw [if_neg (by decide +kernel)]; exact ⟨rfl, rfl⟩))
    (fun os started H enc _ => lifted os started H enc)
theorem proved : Rows.PairTurnedSaid := over
#print axioms proved
end Go.Proofs.Ytllmckdmglacdaa.pairTurned
namespace Go.Proofs.Ytllmckdmglacdaa
/-- The row, under a short name, for the claim. -/
theorem pairTurned_holds : Rows.PairTurnedSaid := pairTurned.proved
end Go.Proofs.Ytllmckdmglacdaa
