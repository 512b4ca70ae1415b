/- The law crossbuck/crossbucklaw22.LockSteps holds of the given program at every input: no condition. -/
import Derived.Test.YtllmckdmglacdaaRows
import Derived.Test.YtllmckdmglacdaaFlat
import Derived.Test.YtllmckdmglacdaaPureLockSteps
import Derived.WalkKit
import Derived.ProofKit
import Derived.OpenShut
import Derived.ShutString
import Derived.ChangeOld
import Derived.Below
import Derived.SizedLaws
namespace Go.Proofs.Ytllmckdmglacdaa.lockSteps
open Go.ChangeShapes Go.WideShapes Go.ChangeAt Go.RowKit Go.Proofs.YtllmckdmglacdaaW.PrintWords Go.Proofs.YtllmckdmglacdaaW.PrintLast Go.Proofs.Ytllmckdmglacdaa.A
set_option linter.unusedVariables false
set_option linter.unusedSimpArgs false
theorem own : ownKnob Try.prog.godebug = none := by kernel_rfl
theorem laidOut : laidOutB Try.prog = true := by kernel_rfl
set_option maxRecDepth 100000 in
theorem lifted (os : Os) (started : os.Started) (H : Type) (enc : TypeId × Value → H) :
    ReturnsInHanded {} Try.checked os 9 .any (Rows.lockStepsSpec.pre6 enc Try.prog Try.f9 Rows.lockStepsRow.domain false) (Rows.lockStepsSpec.post enc Try.prog Try.f9 false true false false) := by
  refine returnsInHanded_of_change_sized (C := Try.checked) own started (by kernel_rfl) Try.func9
    (ChangeSpec.witness6 (enc := enc) (C := Try.checked) false ⟨#[], #[.slice none 0 0, .bool false, .int .i64 0, .agg #[.int .i64 0, .int .i64 0, .int .i64 0, .int .i64 0, .int .i64 0, .int .i64 0, .int .i64 0, .int .i64 0, .int .i64 0, .int .i64 0]], []⟩ 8 (by kernel_rfl) (by kernel_rfl) (by kernel_rfl) (by kernel_rfl)) ?_
  intro W base args ds gs before hval0 hW hcnd hsz0 _
  have hval : ∀ (j : Nat) t v, Try.f9.params[j]? = some t → args[j]? = some v → Value.okWide Try.prog W .any base t v := hval0
  have hW' := hW
  obtain ⟨p, q, hA0, hV, rfl, hfz, hnd⟩ := hW
  have hA : DataW.TrodAll enc Try.prog W 0 (fun _ => true) true Try.f9.params.toList args.toList ds p := hA0
  rw [Try.params9] at hA hval
  obtain ⟨v0, vs0, d0, ds0, p0, q0, hargs, rfl, rfl, h0, r0⟩ := trodAll_cons hA
  obtain ⟨v1, vs1, d1, ds1, p1, q1, rfl, rfl, rfl, h1, r1⟩ := trodAll_cons r0
  obtain ⟨v2, vs2, d2, ds2, p2, q2, rfl, rfl, rfl, h2, r2⟩ := trodAll_cons r1
  obtain ⟨v3, vs3, d3, ds3, p3, q3, rfl, rfl, rfl, h3, r3⟩ := trodAll_cons r2
  obtain ⟨rfl, rfl, rfl⟩ := trodAll_nil r3
  obtain rfl : args = #[v0, v1, v2, v3] := by cases args; simp_all
  obtain ⟨rfl, rfl⟩ := trodVars_none hV
  have k0 := h0
  have lt0 : ∀ x ∈ p0, x.block < W.heap.size := by obtain ⟨m, hm⟩ := k0; exact DataW.trod_lt m _ _ _ hm
  obtain ⟨A0, len0, c0, rfl⟩ := okWide_slice Try.underlying34 (hval 0 34 v0 rfl rfl)
  have mk0 : ∀ cs, Flat.Fits [.bool, .int .i64] cs → ∃ x : S38, k38.K W x cs ∧ ((Lit.int .i64 x.f1).wf = true) := by
    intro cs ft0
    obtain ⟨_, _, rfl, ⟨a0, rfl⟩, ft1⟩ := ft0.cons
    clear ft0
    obtain ⟨_, _, rfl, ⟨a1, rfl, w1⟩, ft2⟩ := ft1.cons
    clear ft1
    obtain rfl := ft2.nil
    exact ⟨⟨a0, a1⟩, k38_mk _ _, w1⟩
  obtain ⟨hle0, _, l0, R0⟩ := Flat.open_rows (n := 8) (sz := 2) (ls := [.bool, .int .i64]) Try.underlying34 (by kernel_rfl) (by kernel_rfl) mk0 h0
  obtain rfl : l0.length = len0 := R0.1
  have ok0 : ∀ x ∈ l0, ((Lit.int .i64 x.f1).wf = true) := by
    intro x hx
    obtain ⟨j, hj, rfl⟩ := List.getElem_of_mem hx
    obtain ⟨_, _, hc⟩ := R0.2.2 (by omega)
    obtain ⟨_, _, hk, _⟩ := hc j _ (List.getElem?_eq_getElem hj)
    exact hk.2
  have C0 : Kd.C k38 W A0 l0.length l0 := R0.imp_ (Below.refl _ _) (fun _ _ hk => hk.1)
  have k1 := h1
  have lt1 : ∀ x ∈ p1, x.block < W.heap.size := by obtain ⟨m, hm⟩ := k1; exact DataW.trod_lt m _ _ _ hm
  obtain ⟨a1, rfl, rfl, rfl⟩ := open_bool Try.underlying4 (hval 1 4 v1 rfl rfl) h1
  have k2 := h2
  have lt2 : ∀ x ∈ p2, x.block < W.heap.size := by obtain ⟨m, hm⟩ := k2; exact DataW.trod_lt m _ _ _ hm
  obtain ⟨a2, rfl, rfl, rfl, w2⟩ := open_int Try.underlying3 (hval 2 3 v2 rfl rfl) h2
  have k3 := h3
  have lt3 : ∀ x ∈ p3, x.block < W.heap.size := by obtain ⟨m, hm⟩ := k3; exact DataW.trod_lt m _ _ _ hm
  obtain ⟨cs3, rfl, ft3_0⟩ := Flat.open_flat (n := 8) (ls := [.int .i64, .int .i64, .int .i64, .int .i64, .int .i64, .int .i64, .int .i64, .int .i64, .int .i64, .int .i64]) (by kernel_rfl) (hval 3 36 v3 rfl rfl) (by kernel_rfl) h3
  obtain ⟨_, cs3_0, rfl, ⟨a3_0, rfl, w3_0⟩, ft3_1⟩ := ft3_0.cons
  clear ft3_0
  obtain ⟨_, cs3_1, rfl, ⟨a3_1, rfl, w3_1⟩, ft3_2⟩ := ft3_1.cons
  clear ft3_1
  obtain ⟨_, cs3_2, rfl, ⟨a3_2, rfl, w3_2⟩, ft3_3⟩ := ft3_2.cons
  clear ft3_2
  obtain ⟨_, cs3_3, rfl, ⟨a3_3, rfl, w3_3⟩, ft3_4⟩ := ft3_3.cons
  clear ft3_3
  obtain ⟨_, cs3_4, rfl, ⟨a3_4, rfl, w3_4⟩, ft3_5⟩ := ft3_4.cons
  clear ft3_4
  obtain ⟨_, cs3_5, rfl, ⟨a3_5, rfl, w3_5⟩, ft3_6⟩ := ft3_5.cons
  clear ft3_5
  obtain ⟨_, cs3_6, rfl, ⟨a3_6, rfl, w3_6⟩, ft3_7⟩ := ft3_6.cons
  clear ft3_6
  obtain ⟨_, cs3_7, rfl, ⟨a3_7, rfl, w3_7⟩, ft3_8⟩ := ft3_7.cons
  clear ft3_7
  obtain ⟨_, cs3_8, rfl, ⟨a3_8, rfl, w3_8⟩, ft3_9⟩ := ft3_8.cons
  clear ft3_8
  obtain ⟨_, cs3_9, rfl, ⟨a3_9, rfl, w3_9⟩, ft3_10⟩ := ft3_9.cons
  clear ft3_9
  obtain rfl := ft3_10.nil
  clear hA0 hval0 hsz0
  obtain ⟨k, hp⟩ := Pure.LockSteps l0 a1 a2 a3_0 a3_1 a3_2 a3_3 a3_4 a3_5 a3_6 a3_7 a3_8 a3_9 ok0 w2 w3_0 w3_1 w3_2 w3_3 w3_4 w3_5 w3_6 w3_7 w3_8 w3_9
  refine (crossbucklaw22_LockSteps.calls k A0 c0 l0 a1 a2 a3_0 a3_1 a3_2 a3_3 a3_4 a3_5 a3_6 a3_7 a3_8 a3_9 true W C0 hle0 hp).mono fun e W' ⟨he, bel⟩ => ?_
  subst he
  exact ⟨_, rfl, _, _, _, [], _, [], hW', trodAll_mk1 (shut_bool Try.underlying4 _), (trodAll_cons_mk (Below.trod laidOut (by kernel_rfl) (of_decide_eq_true (by kernel_rfl)) k0 bel lt0) (trodAll_cons_mk (Below.trod laidOut (by kernel_rfl) (of_decide_eq_true (by kernel_rfl)) k1 bel lt1) (trodAll_cons_mk (Below.trod laidOut (by kernel_rfl) (of_decide_eq_true (by kernel_rfl)) k2 bel lt2) (trodAll_cons_mk (Below.trod laidOut (by kernel_rfl) (of_decide_eq_true (by kernel_rfl)) k3 bel lt3) trodAll_mk0)))), rfl, bel.frame _, fun h => by cases h⟩
theorem over : Rows.lockStepsRow.holds Try.pinned (OpenSpec.ofChange Rows.lockStepsSpec) :=
  OpenClaim.holds_of_wide 9 Try.f9 rfl rfl rfl rfl rfl rfl rfl ⟨rfl, rfl, rfl, rfl, rfl⟩ rfl rfl rfl rfl rfl (by kernel_rfl) Try.func9 (by kernel_rfl)
    (of_decide_eq_true (by kernel_rfl)) (by unfold Func.isWrapper; first | (rw [if_pos (by decide +kernel)]; kernel_rfl) | (rw [if_neg (by decide +kernel)]; exact ⟨rfl, rfl⟩))
    (fun os started H enc _ => lifted os started H enc)
theorem proved : Rows.LockStepsSaid := over
#print axioms proved
end Go.Proofs.Ytllmckdmglacdaa.lockSteps
namespace Go.Proofs.Ytllmckdmglacdaa
/-- The row, under a short name, for the claim. -/
theorem lockSteps_holds : Rows.LockStepsSaid := lockSteps.proved
end Go.Proofs.Ytllmckdmglacdaa
