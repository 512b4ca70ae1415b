/- The law crossbuck/crossbucklaw25.RecordBack holds of the given program at every input: no condition. -/
import Derived.Test.YtjjnfjhhimijmaaRows
import Derived.Test.YtjjnfjhhimijmaaFlat
import Derived.Test.YtjjnfjhhimijmaaHandRecordBack
import Derived.WalkKit
import Derived.ProofKit
import Derived.OpenShut
import Derived.ShutString
import Derived.ChangeOld
import Derived.Below
import Derived.SizedLaws
namespace Go.Proofs.Ytjjnfjhhimijmaa.recordBack
open Go.ChangeShapes Go.WideShapes Go.ChangeAt Go.RowKit Go.Proofs.YtjjnfjhhimijmaaW.PrintWords Go.Proofs.YtjjnfjhhimijmaaW.PrintLast Go.Proofs.Ytjjnfjhhimijmaa.A
set_option linter.unusedVariables false
set_option linter.unusedSimpArgs false
theorem own : ownKnob Try.prog.godebug = none := by kernel_rfl
theorem laidOut : laidOutB Try.prog = true := by kernel_rfl
set_option maxHeartbeats 4000000 in
set_option maxRecDepth 100000 in
theorem lifted (os : Os) (started : os.Started) (H : Type) (enc : TypeId × Value → H) :
    ReturnsInHanded {} Try.checked os 9 .any (Rows.recordBackSpec.pre6 enc Try.prog Try.f9 Rows.recordBackRow.domain false) (Rows.recordBackSpec.post enc Try.prog Try.f9 false true false false) := by
  refine returnsInHanded_of_change_sized (C := Try.checked) own started (by kernel_rfl) Try.func9
    (ChangeSpec.witness6 (enc := enc) (C := Try.checked) false ⟨#[], #[.agg #[.int .i64 0, .int .i64 0, .int .i64 0], .slice none 0 0], []⟩ 8 (by kernel_rfl) (by kernel_rfl) (by kernel_rfl) (by kernel_rfl)) ?_
  intro W base args ds gs before hval0 hW hcnd hsz0 _
  have hval : ∀ (j : Nat) t v, Try.f9.params[j]? = some t → args[j]? = some v → Value.okWide Try.prog W .any base t v := hval0
  have hW' := hW
  obtain ⟨p, q, hA0, hV, rfl, hfz, hnd⟩ := hW
  have hA : DataW.TrodAll enc Try.prog W 0 (fun _ => true) true Try.f9.params.toList args.toList ds p := hA0
  rw [Try.params9] at hA hval
  obtain ⟨v0, vs0, d0, ds0, p0, q0, hargs, rfl, rfl, h0, r0⟩ := trodAll_cons hA
  obtain ⟨v1, vs1, d1, ds1, p1, q1, rfl, rfl, rfl, h1, r1⟩ := trodAll_cons r0
  obtain ⟨rfl, rfl, rfl⟩ := trodAll_nil r1
  obtain rfl : args = #[v0, v1] := by cases args; simp_all
  obtain ⟨rfl, rfl⟩ := trodVars_none hV
  have k0 := h0
  have lt0 : ∀ x ∈ p0, x.block < W.heap.size := by obtain ⟨m, hm⟩ := k0; exact DataW.trod_lt m _ _ _ hm
  obtain ⟨cs0, rfl, ft0_0⟩ := Flat.open_flat (n := 8) (ls := [.int .i64, .int .i64, .int .i64]) (by kernel_rfl) (hval 0 46 v0 rfl rfl) (by kernel_rfl) h0
  obtain ⟨_, cs0_0, rfl, ⟨a0_0, rfl, w0_0⟩, ft0_1⟩ := ft0_0.cons
  clear ft0_0
  obtain ⟨_, cs0_1, rfl, ⟨a0_1, rfl, w0_1⟩, ft0_2⟩ := ft0_1.cons
  clear ft0_1
  obtain ⟨_, cs0_2, rfl, ⟨a0_2, rfl, w0_2⟩, ft0_3⟩ := ft0_2.cons
  clear ft0_2
  obtain rfl := ft0_3.nil
  have k1 := h1
  have lt1 : ∀ x ∈ p1, x.block < W.heap.size := by obtain ⟨m, hm⟩ := k1; exact DataW.trod_lt m _ _ _ hm
  obtain ⟨A1, len1, c1, rfl⟩ := okWide_slice Try.underlying47 (hval 1 47 v1 rfl rfl)
  have mk1 : ∀ cs, Flat.Fits [.int .u8] cs → ∃ x : Int, (Kd.int .u8).K W x cs ∧ ((Lit.int .u8 x).wf = true) := by
    intro cs ft0
    obtain ⟨_, _, rfl, ⟨a0, rfl, w0⟩, ft1⟩ := ft0.cons
    clear ft0
    obtain rfl := ft1.nil
    exact ⟨a0, rfl, w0⟩
  obtain ⟨hle1, _, l1, R1⟩ := Flat.open_rows (n := 8) (sz := 1) (ls := [.int .u8]) Try.underlying47 (by kernel_rfl) (by kernel_rfl) mk1 h1
  obtain rfl : l1.length = len1 := R1.1
  have ok1 : ∀ x ∈ l1, ((Lit.int .u8 x).wf = true) := by
    intro x hx
    obtain ⟨j, hj, rfl⟩ := List.getElem_of_mem hx
    obtain ⟨_, _, hc⟩ := R1.2.2 (by omega)
    obtain ⟨_, _, hk, _⟩ := hc j _ (List.getElem?_eq_getElem hj)
    exact hk.2
  have C1 : Kd.C (Kd.int .u8) W A1 l1.length l1 := R1.imp_ (Below.refl _ _) (fun _ _ hk => hk.1)
  clear hA0 hval0 hsz0
  refine (A.RecordBack.walk W a0_0 a0_1 a0_2 A1 c1 l1 w0_0 w0_1 w0_2 ok1 hle1 C1).mono fun e W' ⟨he, bel⟩ => ?_
  subst he
  exact ⟨_, rfl, _, _, _, [], _, [], hW', trodAll_mk1 (shut_bool Try.underlying4 _), (trodAll_cons_mk (Below.trod laidOut (by kernel_rfl) (of_decide_eq_true (by kernel_rfl)) k0 bel lt0) (trodAll_cons_mk (Below.trod laidOut (by kernel_rfl) (of_decide_eq_true (by kernel_rfl)) k1 bel lt1) trodAll_mk0)), rfl, bel.frame _, fun h => by cases h⟩
theorem over : Rows.recordBackRow.holds Try.pinned (OpenSpec.ofChange Rows.recordBackSpec) :=
  OpenClaim.holds_of_wide 9 Try.f9 rfl rfl rfl rfl rfl rfl rfl ⟨rfl, rfl, rfl, rfl, rfl⟩ rfl rfl rfl rfl rfl (by kernel_rfl) Try.func9 (by kernel_rfl)
    (of_decide_eq_true (by kernel_rfl)) (by unfold Func.isWrapper; first | (rw [if_pos (by decide +kernel)]; kernel_rfl) | (rw [if_neg (by decide +kernel)]; exact ⟨rfl, rfl⟩))
    (fun os started H enc _ => lifted os started H enc)
theorem proved : Rows.RecordBackSaid := over
#print axioms proved
end Go.Proofs.Ytjjnfjhhimijmaa.recordBack
namespace Go.Proofs.Ytjjnfjhhimijmaa
/-- The row, under a short name, for the claim. -/
theorem recordBack_holds : Rows.RecordBackSaid := recordBack.proved
end Go.Proofs.Ytjjnfjhhimijmaa
