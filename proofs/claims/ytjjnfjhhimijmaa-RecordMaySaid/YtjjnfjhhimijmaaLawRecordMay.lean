/- The law crossbuck/crossbucklaw25.RecordMay holds of the given program at every input: no condition. -/
import Derived.Test.YtjjnfjhhimijmaaRows
import Derived.Test.YtjjnfjhhimijmaaFlat
import Derived.Test.YtjjnfjhhimijmaaPureRecordMay
import Derived.WalkKit
import Derived.ProofKit
import Derived.OpenShut
import Derived.ShutString
import Derived.ChangeOld
import Derived.Below
import Derived.SizedLaws
namespace Go.Proofs.Ytjjnfjhhimijmaa.recordMay
open Go.ChangeShapes Go.WideShapes Go.ChangeAt Go.RowKit Go.Proofs.YtjjnfjhhimijmaaW.PrintWords Go.Proofs.YtjjnfjhhimijmaaW.PrintLast Go.Proofs.Ytjjnfjhhimijmaa.A
set_option linter.unusedVariables false
set_option linter.unusedSimpArgs false
theorem own : ownKnob Try.prog.godebug = none := by kernel_rfl
theorem laidOut : laidOutB Try.prog = true := by kernel_rfl
set_option maxHeartbeats 4000000 in
set_option maxRecDepth 100000 in
theorem lifted (os : Os) (started : os.Started) (H : Type) (enc : TypeId × Value → H) :
    ReturnsInHanded {} Try.checked os 11 .any (Rows.recordMaySpec.pre6 enc Try.prog Try.f11 Rows.recordMayRow.domain false) (Rows.recordMaySpec.post enc Try.prog Try.f11 false true false false) := by
  refine returnsInHanded_of_change_sized (C := Try.checked) own started (by kernel_rfl) Try.func11
    (ChangeSpec.witness6 (enc := enc) (C := Try.checked) false ⟨#[], #[.int .i64 0, .slice none 0 0], []⟩ 8 (by kernel_rfl) (by kernel_rfl) (by kernel_rfl) (by kernel_rfl)) ?_
  intro W base args ds gs before hval0 hW hcnd hsz0 _
  have hval : ∀ (j : Nat) t v, Try.f11.params[j]? = some t → args[j]? = some v → Value.okWide Try.prog W .any base t v := hval0
  have hW' := hW
  obtain ⟨p, q, hA0, hV, rfl, hfz, hnd⟩ := hW
  have hA : DataW.TrodAll enc Try.prog W 0 (fun _ => true) true Try.f11.params.toList args.toList ds p := hA0
  rw [Try.params11] at hA hval
  obtain ⟨v0, vs0, d0, ds0, p0, q0, hargs, rfl, rfl, h0, r0⟩ := trodAll_cons hA
  obtain ⟨v1, vs1, d1, ds1, p1, q1, rfl, rfl, rfl, h1, r1⟩ := trodAll_cons r0
  obtain ⟨rfl, rfl, rfl⟩ := trodAll_nil r1
  obtain rfl : args = #[v0, v1] := by cases args; simp_all
  obtain ⟨rfl, rfl⟩ := trodVars_none hV
  have k0 := h0
  have lt0 : ∀ x ∈ p0, x.block < W.heap.size := by obtain ⟨m, hm⟩ := k0; exact DataW.trod_lt m _ _ _ hm
  obtain ⟨a0, rfl, rfl, rfl, w0⟩ := open_int Try.underlying3 (hval 0 3 v0 rfl rfl) h0
  have k1 := h1
  have lt1 : ∀ x ∈ p1, x.block < W.heap.size := by obtain ⟨m, hm⟩ := k1; exact DataW.trod_lt m _ _ _ hm
  obtain ⟨A1, len1, c1, rfl⟩ := okWide_slice Try.underlying27 (hval 1 27 v1 rfl rfl)
  have mk1 : ∀ cs, Flat.Fits [.bool, .int .i64, .int .i64, .bool, .int .i64, .int .i64, .bool, .bool, .int .i64, .bool, .bool] cs → ∃ x : S39, k39.K W x cs ∧ ((Lit.int .i64 x.f0.f1).wf = true ∧ (Lit.int .i64 x.f0.f2).wf = true ∧ (Lit.int .i64 x.f1.f0).wf = true ∧ (Lit.int .i64 x.f1.f1).wf = true ∧ (Lit.int .i64 x.f3).wf = true) := by
    intro cs ft0
    obtain ⟨_, _, rfl, ⟨a0, rfl⟩, ft1⟩ := ft0.cons
    clear ft0
    obtain ⟨_, _, rfl, ⟨a1, rfl, w1⟩, ft2⟩ := ft1.cons
    clear ft1
    obtain ⟨_, _, rfl, ⟨a2, rfl, w2⟩, ft3⟩ := ft2.cons
    clear ft2
    obtain ⟨_, _, rfl, ⟨a3, rfl⟩, ft4⟩ := ft3.cons
    clear ft3
    obtain ⟨_, _, rfl, ⟨a4, rfl, w4⟩, ft5⟩ := ft4.cons
    clear ft4
    obtain ⟨_, _, rfl, ⟨a5, rfl, w5⟩, ft6⟩ := ft5.cons
    clear ft5
    obtain ⟨_, _, rfl, ⟨a6, rfl⟩, ft7⟩ := ft6.cons
    clear ft6
    obtain ⟨_, _, rfl, ⟨a7, rfl⟩, ft8⟩ := ft7.cons
    clear ft7
    obtain ⟨_, _, rfl, ⟨a8, rfl, w8⟩, ft9⟩ := ft8.cons
    clear ft8
    obtain ⟨_, _, rfl, ⟨a9, rfl⟩, ft10⟩ := ft9.cons
    clear ft9
    obtain ⟨_, _, rfl, ⟨a10, rfl⟩, ft11⟩ := ft10.cons
    clear ft10
    obtain rfl := ft11.nil
    exact ⟨⟨⟨a0, a1, a2, a3⟩, ⟨a4, a5, a6⟩, a7, a8, a9, a10⟩, k39_mk _ _, ⟨w1, w2, w4, w5, w8⟩⟩
  obtain ⟨hle1, _, l1, R1⟩ := Flat.open_rows (n := 8) (sz := 11) (ls := [.bool, .int .i64, .int .i64, .bool, .int .i64, .int .i64, .bool, .bool, .int .i64, .bool, .bool]) Try.underlying27 (by kernel_rfl) (by kernel_rfl) mk1 h1
  obtain rfl : l1.length = len1 := R1.1
  have ok1 : ∀ x ∈ l1, ((Lit.int .i64 x.f0.f1).wf = true ∧ (Lit.int .i64 x.f0.f2).wf = true ∧ (Lit.int .i64 x.f1.f0).wf = true ∧ (Lit.int .i64 x.f1.f1).wf = true ∧ (Lit.int .i64 x.f3).wf = true) := by
    intro x hx
    obtain ⟨j, hj, rfl⟩ := List.getElem_of_mem hx
    obtain ⟨_, _, hc⟩ := R1.2.2 (by omega)
    obtain ⟨_, _, hk, _⟩ := hc j _ (List.getElem?_eq_getElem hj)
    exact hk.2
  have C1 : Kd.C k39 W A1 l1.length l1 := R1.imp_ (Below.refl _ _) (fun _ _ hk => hk.1)
  clear hA0 hval0 hsz0
  obtain ⟨k, hp⟩ := Pure.RecordMay a0 l1 w0 ok1
  refine (crossbucklaw25_RecordMay.calls k a0 A1 c1 l1 true W C1 hle1 hp).mono fun e W' ⟨he, bel⟩ => ?_
  subst he
  exact ⟨_, rfl, _, _, _, [], _, [], hW', trodAll_mk1 (shut_bool Try.underlying4 _), (trodAll_cons_mk (Below.trod laidOut (by kernel_rfl) (of_decide_eq_true (by kernel_rfl)) k0 bel lt0) (trodAll_cons_mk (Below.trod laidOut (by kernel_rfl) (of_decide_eq_true (by kernel_rfl)) k1 bel lt1) trodAll_mk0)), rfl, bel.frame _, fun h => by cases h⟩
theorem over : Rows.recordMayRow.holds Try.pinned (OpenSpec.ofChange Rows.recordMaySpec) :=
  OpenClaim.holds_of_wide 11 Try.f11 rfl rfl rfl rfl rfl rfl rfl ⟨rfl, rfl, rfl, rfl, rfl⟩ rfl rfl rfl rfl rfl (by kernel_rfl) Try.func11 (by kernel_rfl)
    (of_decide_eq_true (by kernel_rfl)) (by unfold Func.isWrapper; first | (rw [if_pos (by decide +kernel)]; kernel_rfl) | (rw [if_neg (by decide +kernel)]; exact ⟨rfl, rfl⟩))
    (fun os started H enc _ => lifted os started H enc)
theorem proved : Rows.RecordMaySaid := over
#print axioms proved
end Go.Proofs.Ytjjnfjhhimijmaa.recordMay
namespace Go.Proofs.Ytjjnfjhhimijmaa
/-- The row, under a short name, for the claim. -/
theorem recordMay_holds : Rows.RecordMaySaid := recordMay.proved
end Go.Proofs.Ytjjnfjhhimijmaa
