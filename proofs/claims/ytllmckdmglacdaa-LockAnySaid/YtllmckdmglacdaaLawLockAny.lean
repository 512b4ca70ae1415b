/- The law crossbuck/crossbucklaw22.LockAny holds of the given program at every input: no condition. -/
import Derived.Test.YtllmckdmglacdaaRows
import Derived.Test.YtllmckdmglacdaaFlat
import Derived.Test.YtllmckdmglacdaaPureLockAny
import Derived.WalkKit
import Derived.ProofKit
import Derived.OpenShut
import Derived.ShutString
import Derived.ChangeOld
import Derived.Below
import Derived.SizedLaws
namespace Go.Proofs.Ytllmckdmglacdaa.lockAny
open Go.ChangeShapes Go.WideShapes Go.ChangeAt Go.RowKit Go.Proofs.YtllmckdmglacdaaW.PrintWords Go.Proofs.YtllmckdmglacdaaW.PrintLast Go.Proofs.Ytllmckdmglacdaa.A
set_option linter.unusedVariables false
set_option linter.unusedSimpArgs false
theorem own : ownKnob Try.prog.godebug = none := by kernel_rfl
theorem laidOut : laidOutB Try.prog = true := by kernel_rfl
set_option maxHeartbeats 4000000 in
set_option maxRecDepth 100000 in
theorem lifted (os : Os) (started : os.Started) (H : Type) (enc : TypeId × Value → H) :
    ReturnsInHanded {} Try.checked os 11 .any (Rows.lockAnySpec.pre6 enc Try.prog Try.f11 Rows.lockAnyRow.domain false) (Rows.lockAnySpec.post enc Try.prog Try.f11 false true false false) := by
  refine returnsInHanded_of_change_sized (C := Try.checked) own started (by kernel_rfl) Try.func11
    (ChangeSpec.witness6 (enc := enc) (C := Try.checked) false ⟨#[], #[.slice none 0 0, .agg #[.bool false, .int .i64 0]], []⟩ 8 (by kernel_rfl) (by kernel_rfl) (by kernel_rfl) (by kernel_rfl)) ?_
  intro W base args ds gs before hval0 hW hcnd hsz0 _
  have hval : ∀ (j : Nat) t v, Try.f11.params[j]? = some t → args[j]? = some v → Value.okWide Try.prog W .any base t v := hval0
  have hW' := hW
  obtain ⟨p, q, hA0, hV, rfl, hfz, hnd⟩ := hW
  have hA : DataW.TrodAll enc Try.prog W 0 (fun _ => true) true Try.f11.params.toList args.toList ds p := hA0
  rw [Try.params11] at hA hval
  obtain ⟨v0, vs0, d0, ds0, p0, q0, hargs, rfl, rfl, h0, r0⟩ := trodAll_cons hA
  obtain ⟨v1, vs1, d1, ds1, p1, q1, rfl, rfl, rfl, h1, r1⟩ := trodAll_cons r0
  obtain ⟨rfl, rfl, rfl⟩ := trodAll_nil r1
  obtain rfl : args = #[v0, v1] := by cases args; simp_all
  obtain ⟨rfl, rfl⟩ := trodVars_none hV
  have k0 := h0
  have lt0 : ∀ x ∈ p0, x.block < W.heap.size := by obtain ⟨m, hm⟩ := k0; exact DataW.trod_lt m _ _ _ hm
  obtain ⟨A0, len0, c0, rfl⟩ := okWide_slice Try.underlying34 (hval 0 34 v0 rfl rfl)
  have mk0 : ∀ cs, Flat.Fits [.bool, .int .i64] cs → ∃ x : S38, k38.K W x cs ∧ ((Lit.int .i64 x.f1).wf = true) := by
    intro cs ft0
    obtain ⟨_, _, rfl, ⟨a0, rfl⟩, ft1⟩ := ft0.cons
    clear ft0
    obtain ⟨_, _, rfl, ⟨a1, rfl, w1⟩, ft2⟩ := ft1.cons
    clear ft1
    obtain rfl := ft2.nil
    exact ⟨⟨a0, a1⟩, k38_mk _ _, w1⟩
  obtain ⟨hle0, _, l0, R0⟩ := Flat.open_rows (n := 8) (sz := 2) (ls := [.bool, .int .i64]) Try.underlying34 (by kernel_rfl) (by kernel_rfl) mk0 h0
  obtain rfl : l0.length = len0 := R0.1
  have ok0 : ∀ x ∈ l0, ((Lit.int .i64 x.f1).wf = true) := by
    intro x hx
    obtain ⟨j, hj, rfl⟩ := List.getElem_of_mem hx
    obtain ⟨_, _, hc⟩ := R0.2.2 (by omega)
    obtain ⟨_, _, hk, _⟩ := hc j _ (List.getElem?_eq_getElem hj)
    exact hk.2
  have C0 : Kd.C k38 W A0 l0.length l0 := R0.imp_ (Below.refl _ _) (fun _ _ hk => hk.1)
  have k1 := h1
  have lt1 : ∀ x ∈ p1, x.block < W.heap.size := by obtain ⟨m, hm⟩ := k1; exact DataW.trod_lt m _ _ _ hm
  obtain ⟨cs1, rfl, ft1_0⟩ := Flat.open_flat (n := 8) (ls := [.bool, .int .i64]) (by kernel_rfl) (hval 1 38 v1 rfl rfl) (by kernel_rfl) h1
  obtain ⟨_, cs1_0, rfl, ⟨a1_0, rfl⟩, ft1_1⟩ := ft1_0.cons
  clear ft1_0
  obtain ⟨_, cs1_1, rfl, ⟨a1_1, rfl, w1_1⟩, ft1_2⟩ := ft1_1.cons
  clear ft1_1
  obtain rfl := ft1_2.nil
  clear hA0 hval0 hsz0
  obtain ⟨k, hp⟩ := Pure.LockAny l0 a1_0 a1_1 ok0 w1_1
  refine (crossbucklaw22_LockAny.calls k A0 c0 l0 a1_0 a1_1 W C0 hle0 hp).mono fun e W' ⟨he, bel⟩ => ?_
  subst he
  exact ⟨_, rfl, _, _, _, [], _, [], hW', trodAll_mk1 (shut_bool Try.underlying4 _), (trodAll_cons_mk (Below.trod laidOut (by kernel_rfl) (of_decide_eq_true (by kernel_rfl)) k0 bel lt0) (trodAll_cons_mk (Below.trod laidOut (by kernel_rfl) (of_decide_eq_true (by kernel_rfl)) k1 bel lt1) trodAll_mk0)), rfl, bel.frame _, fun h => by cases h⟩
theorem over : Rows.lockAnyRow.holds Try.pinned (OpenSpec.ofChange Rows.lockAnySpec) :=
  OpenClaim.holds_of_wide 11 Try.f11 rfl rfl rfl rfl rfl rfl rfl ⟨rfl, rfl, rfl, rfl, rfl⟩ rfl rfl rfl rfl rfl (by kernel_rfl) Try.func11 (by kernel_rfl)
    (of_decide_eq_true (by kernel_rfl)) (by unfold Func.isWrapper; first | (rw [if_pos (by decide +kernel)]; kernel_rfl) | (rw [if_neg (by decide +kernel)]; exact ⟨rfl, rfl⟩))
    (fun os started H enc _ => lifted os started H enc)
theorem proved : Rows.LockAnySaid := over
#print axioms proved
end Go.Proofs.Ytllmckdmglacdaa.lockAny
namespace Go.Proofs.Ytllmckdmglacdaa
/-- The row, under a short name, for the claim. -/
theorem lockAny_holds : Rows.LockAnySaid := lockAny.proved
end Go.Proofs.Ytllmckdmglacdaa
