/- The law crossbuck/crossbucklaw25.RecordApart holds of the given program at every input: no condition. -/
import Derived.Test.YtjjnfjhhimijmaaRows
import Derived.Test.YtjjnfjhhimijmaaFlat
import Derived.Test.YtjjnfjhhimijmaaHandRecordApart
import Derived.WalkKit
import Derived.ProofKit
import Derived.OpenShut
import Derived.ShutString
import Derived.ChangeOld
import Derived.Below
import Derived.SizedLaws
namespace Go.Proofs.Ytjjnfjhhimijmaa.recordApart
open Go.ChangeShapes Go.WideShapes Go.ChangeAt Go.RowKit Go.Proofs.YtjjnfjhhimijmaaW.PrintWords Go.Proofs.YtjjnfjhhimijmaaW.PrintLast Go.Proofs.Ytjjnfjhhimijmaa.A
set_option linter.unusedVariables false
set_option linter.unusedSimpArgs false
theorem own : ownKnob Try.prog.godebug = none := by kernel_rfl
theorem laidOut : laidOutB Try.prog = true := by kernel_rfl
set_option maxHeartbeats 4000000 in
set_option maxRecDepth 100000 in
theorem lifted (os : Os) (started : os.Started) (H : Type) (enc : TypeId × Value → H) :
    ReturnsInHanded {} Try.checked os 10 .any (Rows.recordApartSpec.pre6 enc Try.prog Try.f10 Rows.recordApartRow.domain false) (Rows.recordApartSpec.post enc Try.prog Try.f10 false true false false) := by
  refine returnsInHanded_of_change_sized (C := Try.checked) own started (by kernel_rfl) Try.func10
    (ChangeSpec.witness6 (enc := enc) (C := Try.checked) false ⟨#[], #[.agg #[.int .i64 0, .int .i64 0, .int .i64 0], .agg #[.int .i64 0, .int .i64 0, .int .i64 0]], []⟩ 8 (by kernel_rfl) (by kernel_rfl) (by kernel_rfl) (by kernel_rfl)) ?_
  intro W base args ds gs before hval0 hW hcnd hsz0 _
  have hval : ∀ (j : Nat) t v, Try.f10.params[j]? = some t → args[j]? = some v → Value.okWide Try.prog W .any base t v := hval0
  have hW' := hW
  obtain ⟨p, q, hA0, hV, rfl, hfz, hnd⟩ := hW
  have hA : DataW.TrodAll enc Try.prog W 0 (fun _ => true) true Try.f10.params.toList args.toList ds p := hA0
  rw [Try.params10] at hA hval
  obtain ⟨v0, vs0, d0, ds0, p0, q0, hargs, rfl, rfl, h0, r0⟩ := trodAll_cons hA
  obtain ⟨v1, vs1, d1, ds1, p1, q1, rfl, rfl, rfl, h1, r1⟩ := trodAll_cons r0
  obtain ⟨rfl, rfl, rfl⟩ := trodAll_nil r1
  obtain rfl : args = #[v0, v1] := by cases args; simp_all
  obtain ⟨rfl, rfl⟩ := trodVars_none hV
  have k0 := h0
  have lt0 : ∀ x ∈ p0, x.block < W.heap.size := by obtain ⟨m, hm⟩ := k0; exact DataW.trod_lt m _ _ _ hm
  obtain ⟨cs0, rfl, ft0_0⟩ := Flat.open_flat (n := 8) (ls := [.int .i64, .int .i64, .int .i64]) (by kernel_rfl) (hval 0 46 v0 rfl rfl) (by kernel_rfl) h0
  obtain ⟨_, cs0_0, rfl, ⟨a0_0, rfl, w0_0⟩, ft0_1⟩ := ft0_0.cons
  clear ft0_0
  obtain ⟨_, cs0_1, rfl, ⟨a0_1, rfl, w0_1⟩, ft0_2⟩ := ft0_1.cons
  clear ft0_1
  obtain ⟨_, cs0_2, rfl, ⟨a0_2, rfl, w0_2⟩, ft0_3⟩ := ft0_2.cons
  clear ft0_2
  obtain rfl := ft0_3.nil
  have k1 := h1
  have lt1 : ∀ x ∈ p1, x.block < W.heap.size := by obtain ⟨m, hm⟩ := k1; exact DataW.trod_lt m _ _ _ hm
  obtain ⟨cs1, rfl, ft1_0⟩ := Flat.open_flat (n := 8) (ls := [.int .i64, .int .i64, .int .i64]) (by kernel_rfl) (hval 1 46 v1 rfl rfl) (by kernel_rfl) h1
  obtain ⟨_, cs1_0, rfl, ⟨a1_0, rfl, w1_0⟩, ft1_1⟩ := ft1_0.cons
  clear ft1_0
  obtain ⟨_, cs1_1, rfl, ⟨a1_1, rfl, w1_1⟩, ft1_2⟩ := ft1_1.cons
  clear ft1_1
  obtain ⟨_, cs1_2, rfl, ⟨a1_2, rfl, w1_2⟩, ft1_3⟩ := ft1_2.cons
  clear ft1_2
  obtain rfl := ft1_3.nil
  clear hA0 hval0 hsz0
  refine (A.RecordApart.walk W a0_0 a0_1 a0_2 a1_0 a1_1 a1_2 w0_0 w0_1 w0_2 w1_0 w1_1 w1_2).mono fun e W' ⟨he, bel⟩ => ?_
  subst he
  exact ⟨_, rfl, _, _, _, [], _, [], hW', trodAll_mk1 (shut_bool Try.underlying4 _), (trodAll_cons_mk (Below.trod laidOut (by kernel_rfl) (of_decide_eq_true (by kernel_rfl)) k0 bel lt0) (trodAll_cons_mk (Below.trod laidOut (by kernel_rfl) (of_decide_eq_true (by kernel_rfl)) k1 bel lt1) trodAll_mk0)), rfl, bel.frame _, fun h => by cases h⟩
theorem over : Rows.recordApartRow.holds Try.pinned (OpenSpec.ofChange Rows.recordApartSpec) :=
  OpenClaim.holds_of_wide 10 Try.f10 rfl rfl rfl rfl rfl rfl rfl ⟨rfl, rfl, rfl, rfl, rfl⟩ rfl rfl rfl rfl rfl (by kernel_rfl) Try.func10 (by kernel_rfl)
    (of_decide_eq_true (by kernel_rfl)) (by unfold Func.isWrapper; first | (rw [if_pos (by decide +kernel)]; kernel_rfl) | (rw [if_neg (by decide +kernel)]; exact ⟨rfl, rfl⟩))
    (fun os started H enc _ => lifted os started H enc)
theorem proved : Rows.RecordApartSaid := over
#print axioms proved
end Go.Proofs.Ytjjnfjhhimijmaa.recordApart
namespace Go.Proofs.Ytjjnfjhhimijmaa
/-- The row, under a short name, for the claim. -/
theorem recordApart_holds : Rows.RecordApartSaid := recordApart.proved
end Go.Proofs.Ytjjnfjhhimijmaa
