/- The law crossbuck/crossbucklaw25.RecordTells holds of the given program at every input: no condition. -/
import Derived.Test.YtjjnfjhhimijmaaRows
import Derived.Test.YtjjnfjhhimijmaaFlat
import Derived.Test.YtjjnfjhhimijmaaPureRecordTells
import Derived.WalkKit
import Derived.ProofKit
import Derived.OpenShut
import Derived.ShutString
import Derived.ChangeOld
import Derived.Below
import Derived.SizedLaws
namespace Go.Proofs.Ytjjnfjhhimijmaa.recordTells
open Go.ChangeShapes Go.WideShapes Go.ChangeAt Go.RowKit Go.Proofs.YtjjnfjhhimijmaaW.PrintWords Go.Proofs.YtjjnfjhhimijmaaW.PrintLast Go.Proofs.Ytjjnfjhhimijmaa.A
set_option linter.unusedVariables false
set_option linter.unusedSimpArgs false
theorem own : ownKnob Try.prog.godebug = none := by kernel_rfl
theorem laidOut : laidOutB Try.prog = true := by kernel_rfl
set_option maxHeartbeats 4000000 in
set_option maxRecDepth 100000 in
theorem lifted (os : Os) (started : os.Started) (H : Type) (enc : TypeId × Value → H) :
    ReturnsInHanded {} Try.checked os 8 .any (Rows.recordTellsSpec.pre6 enc Try.prog Try.f8 Rows.recordTellsRow.domain false) (Rows.recordTellsSpec.post enc Try.prog Try.f8 false true false false) := by
  refine returnsInHanded_of_change_sized (C := Try.checked) own started (by kernel_rfl) Try.func8
    (ChangeSpec.witness6 (enc := enc) (C := Try.checked) false ⟨#[], #[.agg #[.int .i64 0, .int .i64 0], .slice none 0 0, .agg #[.int .i64 0, .int .i64 0, .int .i64 0], .slice none 0 0], []⟩ 8 (by kernel_rfl) (by kernel_rfl) (by kernel_rfl) (by kernel_rfl)) ?_
  intro W base args ds gs before hval0 hW hcnd hsz0 _
  have hval : ∀ (j : Nat) t v, Try.f8.params[j]? = some t → args[j]? = some v → Value.okWide Try.prog W .any base t v := hval0
  have hW' := hW
  obtain ⟨p, q, hA0, hV, rfl, hfz, hnd⟩ := hW
  have hA : DataW.TrodAll enc Try.prog W 0 (fun _ => true) true Try.f8.params.toList args.toList ds p := hA0
  rw [Try.params8] at hA hval
  obtain ⟨v0, vs0, d0, ds0, p0, q0, hargs, rfl, rfl, h0, r0⟩ := trodAll_cons hA
  obtain ⟨v1, vs1, d1, ds1, p1, q1, rfl, rfl, rfl, h1, r1⟩ := trodAll_cons r0
  obtain ⟨v2, vs2, d2, ds2, p2, q2, rfl, rfl, rfl, h2, r2⟩ := trodAll_cons r1
  obtain ⟨v3, vs3, d3, ds3, p3, q3, rfl, rfl, rfl, h3, r3⟩ := trodAll_cons r2
  obtain ⟨rfl, rfl, rfl⟩ := trodAll_nil r3
  obtain rfl : args = #[v0, v1, v2, v3] := by cases args; simp_all
  obtain ⟨rfl, rfl⟩ := trodVars_none hV
  have k0 := h0
  have lt0 : ∀ x ∈ p0, x.block < W.heap.size := by obtain ⟨m, hm⟩ := k0; exact DataW.trod_lt m _ _ _ hm
  obtain ⟨cs0, rfl, ft0_0⟩ := Flat.open_flat (n := 8) (ls := [.int .i64, .int .i64]) (by kernel_rfl) (hval 0 44 v0 rfl rfl) (by kernel_rfl) h0
  obtain ⟨_, cs0_0, rfl, ⟨a0_0, rfl, w0_0⟩, ft0_1⟩ := ft0_0.cons
  clear ft0_0
  obtain ⟨_, cs0_1, rfl, ⟨a0_1, rfl, w0_1⟩, ft0_2⟩ := ft0_1.cons
  clear ft0_1
  obtain rfl := ft0_2.nil
  have k1 := h1
  have lt1 : ∀ x ∈ p1, x.block < W.heap.size := by obtain ⟨m, hm⟩ := k1; exact DataW.trod_lt m _ _ _ hm
  obtain ⟨A1, len1, c1, rfl⟩ := okWide_slice Try.underlying27 (hval 1 27 v1 rfl rfl)
  have mk1 : ∀ cs, Flat.Fits [.bool, .int .i64, .int .i64, .bool, .int .i64, .int .i64, .bool, .bool, .int .i64, .bool, .bool] cs → ∃ x : S39, k39.K W x cs ∧ ((Lit.int .i64 x.f0.f1).wf = true ∧ (Lit.int .i64 x.f0.f2).wf = true ∧ (Lit.int .i64 x.f1.f0).wf = true ∧ (Lit.int .i64 x.f1.f1).wf = true ∧ (Lit.int .i64 x.f3).wf = true) := by
    intro cs ft0
    obtain ⟨_, _, rfl, ⟨a0, rfl⟩, ft1⟩ := ft0.cons
    clear ft0
    obtain ⟨_, _, rfl, ⟨a1, rfl, w1⟩, ft2⟩ := ft1.cons
    clear ft1
    obtain ⟨_, _, rfl, ⟨a2, rfl, w2⟩, ft3⟩ := ft2.cons
    clear ft2
    obtain ⟨_, _, rfl, ⟨a3, rfl⟩, ft4⟩ := ft3.cons
    clear ft3
    obtain ⟨_, _, rfl, ⟨a4, rfl, w4⟩, ft5⟩ := ft4.cons
    clear ft4
    obtain ⟨_, _, rfl, ⟨a5, rfl, w5⟩, ft6⟩ := ft5.cons
    clear ft5
    obtain ⟨_, _, rfl, ⟨a6, rfl⟩, ft7⟩ := ft6.cons
    clear ft6
    obtain ⟨_, _, rfl, ⟨a7, rfl⟩, ft8⟩ := ft7.cons
    clear ft7
    obtain ⟨_, _, rfl, ⟨a8, rfl, w8⟩, ft9⟩ := ft8.cons
    clear ft8
    obtain ⟨_, _, rfl, ⟨a9, rfl⟩, ft10⟩ := ft9.cons
    clear ft9
    obtain ⟨_, _, rfl, ⟨a10, rfl⟩, ft11⟩ := ft10.cons
    clear ft10
    obtain rfl := ft11.nil
    exact ⟨⟨⟨a0, a1, a2, a3⟩, ⟨a4, a5, a6⟩, a7, a8, a9, a10⟩, k39_mk _ _, ⟨w1, w2, w4, w5, w8⟩⟩
  obtain ⟨hle1, _, l1, R1⟩ := Flat.open_rows (n := 8) (sz := 11) (ls := [.bool, .int .i64, .int .i64, .bool, .int .i64, .int .i64, .bool, .bool, .int .i64, .bool, .bool]) Try.underlying27 (by kernel_rfl) (by kernel_rfl) mk1 h1
  obtain rfl : l1.length = len1 := R1.1
  have ok1 : ∀ x ∈ l1, ((Lit.int .i64 x.f0.f1).wf = true ∧ (Lit.int .i64 x.f0.f2).wf = true ∧ (Lit.int .i64 x.f1.f0).wf = true ∧ (Lit.int .i64 x.f1.f1).wf = true ∧ (Lit.int .i64 x.f3).wf = true) := by
    intro x hx
    obtain ⟨j, hj, rfl⟩ := List.getElem_of_mem hx
    obtain ⟨_, _, hc⟩ := R1.2.2 (by omega)
    obtain ⟨_, _, hk, _⟩ := hc j _ (List.getElem?_eq_getElem hj)
    exact hk.2
  have C1 : Kd.C k39 W A1 l1.length l1 := R1.imp_ (Below.refl _ _) (fun _ _ hk => hk.1)
  have k2 := h2
  have lt2 : ∀ x ∈ p2, x.block < W.heap.size := by obtain ⟨m, hm⟩ := k2; exact DataW.trod_lt m _ _ _ hm
  obtain ⟨cs2, rfl, ft2_0⟩ := Flat.open_flat (n := 8) (ls := [.int .i64, .int .i64, .int .i64]) (by kernel_rfl) (hval 2 46 v2 rfl rfl) (by kernel_rfl) h2
  obtain ⟨_, cs2_0, rfl, ⟨a2_0, rfl, w2_0⟩, ft2_1⟩ := ft2_0.cons
  clear ft2_0
  obtain ⟨_, cs2_1, rfl, ⟨a2_1, rfl, w2_1⟩, ft2_2⟩ := ft2_1.cons
  clear ft2_1
  obtain ⟨_, cs2_2, rfl, ⟨a2_2, rfl, w2_2⟩, ft2_3⟩ := ft2_2.cons
  clear ft2_2
  obtain rfl := ft2_3.nil
  have k3 := h3
  have lt3 : ∀ x ∈ p3, x.block < W.heap.size := by obtain ⟨m, hm⟩ := k3; exact DataW.trod_lt m _ _ _ hm
  obtain ⟨A3, len3, c3, rfl⟩ := okWide_slice Try.underlying47 (hval 3 47 v3 rfl rfl)
  have mk3 : ∀ cs, Flat.Fits [.int .u8] cs → ∃ x : Int, (Kd.int .u8).K W x cs ∧ ((Lit.int .u8 x).wf = true) := by
    intro cs ft0
    obtain ⟨_, _, rfl, ⟨a0, rfl, w0⟩, ft1⟩ := ft0.cons
    clear ft0
    obtain rfl := ft1.nil
    exact ⟨a0, rfl, w0⟩
  obtain ⟨hle3, _, l3, R3⟩ := Flat.open_rows (n := 8) (sz := 1) (ls := [.int .u8]) Try.underlying47 (by kernel_rfl) (by kernel_rfl) mk3 h3
  obtain rfl : l3.length = len3 := R3.1
  have ok3 : ∀ x ∈ l3, ((Lit.int .u8 x).wf = true) := by
    intro x hx
    obtain ⟨j, hj, rfl⟩ := List.getElem_of_mem hx
    obtain ⟨_, _, hc⟩ := R3.2.2 (by omega)
    obtain ⟨_, _, hk, _⟩ := hc j _ (List.getElem?_eq_getElem hj)
    exact hk.2
  have C3 : Kd.C (Kd.int .u8) W A3 l3.length l3 := R3.imp_ (Below.refl _ _) (fun _ _ hk => hk.1)
  clear hA0 hval0 hsz0
  obtain ⟨k, hp⟩ := Pure.RecordTells a0_0 a0_1 l1 a2_0 a2_1 a2_2 l3 w0_0 w0_1 ok1 w2_0 w2_1 w2_2 ok3
  refine (crossbucklaw25_RecordTells.calls k a0_0 a0_1 A1 c1 l1 a2_0 a2_1 a2_2 A3 c3 l3 W C1 hle1 C3 hle3 hp).mono fun e W' ⟨he, bel⟩ => ?_
  subst he
  exact ⟨_, rfl, _, _, _, [], _, [], hW', trodAll_mk1 (shut_bool Try.underlying4 _), (trodAll_cons_mk (Below.trod laidOut (by kernel_rfl) (of_decide_eq_true (by kernel_rfl)) k0 bel lt0) (trodAll_cons_mk (Below.trod laidOut (by kernel_rfl) (of_decide_eq_true (by kernel_rfl)) k1 bel lt1) (trodAll_cons_mk (Below.trod laidOut (by kernel_rfl) (of_decide_eq_true (by kernel_rfl)) k2 bel lt2) (trodAll_cons_mk (Below.trod laidOut (by kernel_rfl) (of_decide_eq_true (by kernel_rfl)) k3 bel lt3) trodAll_mk0)))), rfl, bel.frame _, fun h => by cases h⟩
theorem over : Rows.recordTellsRow.holds Try.pinned (OpenSpec.ofChange Rows.recordTellsSpec) :=
  OpenClaim.holds_of_wide 8 Try.f8 rfl rfl rfl rfl rfl rfl rfl ⟨rfl, rfl, rfl, rfl, rfl⟩ rfl rfl rfl rfl rfl (by kernel_rfl) Try.func8 (by kernel_rfl)
    (of_decide_eq_true (by kernel_rfl)) (by unfold Func.isWrapper; first | (rw [if_pos (by decide +kernel)]; kernel_rfl) | (rw [if_neg (by decide +kernel)]; exact ⟨rfl, rfl⟩))
    (fun os started H enc _ => lifted os started H enc)
theorem proved : Rows.RecordTellsSaid := over
#print axioms proved
end Go.Proofs.Ytjjnfjhhimijmaa.recordTells
namespace Go.Proofs.Ytjjnfjhhimijmaa
/-- The row, under a short name, for the claim. -/
theorem recordTells_holds : Rows.RecordTellsSaid := recordTells.proved
end Go.Proofs.Ytjjnfjhhimijmaa
