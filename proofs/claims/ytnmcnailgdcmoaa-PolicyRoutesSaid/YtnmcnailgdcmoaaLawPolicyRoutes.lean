/- The law crossbuck/crossbucklaw23.PolicyRoutes holds of the given program at every input: no condition. -/
import Derived.Test.YtnmcnailgdcmoaaRows
import Derived.Test.YtnmcnailgdcmoaaFlat
import Derived.Test.YtnmcnailgdcmoaaPurePolicyRoutes
import Derived.WalkKit
import Derived.ProofKit
import Derived.OpenShut
import Derived.ShutString
import Derived.ChangeOld
import Derived.Below
import Derived.SizedLaws
namespace Go.Proofs.Ytnmcnailgdcmoaa.policyRoutes
open Go.ChangeShapes Go.WideShapes Go.ChangeAt Go.RowKit Go.Proofs.YtnmcnailgdcmoaaW.PrintWords Go.Proofs.YtnmcnailgdcmoaaW.PrintLast Go.Proofs.Ytnmcnailgdcmoaa.A
set_option linter.unusedVariables false
set_option linter.unusedSimpArgs false
theorem own : ownKnob Try.prog.godebug = none := by kernel_rfl
theorem laidOut : laidOutB Try.prog = true := by kernel_rfl
set_option maxHeartbeats 4000000 in
set_option maxRecDepth 100000 in
theorem lifted (os : Os) (started : os.Started) (H : Type) (enc : TypeId × Value → H) :
    ReturnsInHanded {} Try.checked os 12 .any (Rows.policyRoutesSpec.pre6 enc Try.prog Try.f12 Rows.policyRoutesRow.domain false) (Rows.policyRoutesSpec.post enc Try.prog Try.f12 false true false false) := by
  refine returnsInHanded_of_change_sized (C := Try.checked) own started (by kernel_rfl) Try.func12
    (ChangeSpec.witness6 (enc := enc) (C := Try.checked) false ⟨#[], #[.agg #[.bool false, .bool false, .bool false, .bool false, .bool false, .bool false, .bool false, .int .i64 0, .bool false, .bool false, .int .i64 0, .slice none 0 0], .slice none 0 0, .agg #[.int .i64 0, .int .i64 0], .bool false, .int .i64 0], []⟩ 8 (by kernel_rfl) (by kernel_rfl) (by kernel_rfl) (by kernel_rfl)) ?_
  intro W base args ds gs before hval0 hW hcnd hsz0 _
  have hval : ∀ (j : Nat) t v, Try.f12.params[j]? = some t → args[j]? = some v → Value.okWide Try.prog W .any base t v := hval0
  have hW' := hW
  obtain ⟨p, q, hA0, hV, rfl, hfz, hnd⟩ := hW
  have hA : DataW.TrodAll enc Try.prog W 0 (fun _ => true) true Try.f12.params.toList args.toList ds p := hA0
  rw [Try.params12] at hA hval
  obtain ⟨v0, vs0, d0, ds0, p0, q0, hargs, rfl, rfl, h0, r0⟩ := trodAll_cons hA
  obtain ⟨v1, vs1, d1, ds1, p1, q1, rfl, rfl, rfl, h1, r1⟩ := trodAll_cons r0
  obtain ⟨v2, vs2, d2, ds2, p2, q2, rfl, rfl, rfl, h2, r2⟩ := trodAll_cons r1
  obtain ⟨v3, vs3, d3, ds3, p3, q3, rfl, rfl, rfl, h3, r3⟩ := trodAll_cons r2
  obtain ⟨v4, vs4, d4, ds4, p4, q4, rfl, rfl, rfl, h4, r4⟩ := trodAll_cons r3
  obtain ⟨rfl, rfl, rfl⟩ := trodAll_nil r4
  obtain rfl : args = #[v0, v1, v2, v3, v4] := by cases args; simp_all
  obtain ⟨rfl, rfl⟩ := trodVars_none hV
  have k0 := h0
  have lt0 : ∀ x ∈ p0, x.block < W.heap.size := by obtain ⟨m, hm⟩ := k0; exact DataW.trod_lt m _ _ _ hm
  obtain ⟨cs0, rfl, ft0_0⟩ := Flat.open_flat (n := 8) (ls := [.bool, .bool, .bool, .bool, .bool, .bool, .bool, .int .i64, .bool, .bool, .int .i64, .slice]) (by kernel_rfl) (hval 0 43 v0 rfl rfl) (by kernel_rfl) h0
  obtain ⟨_, cs0_0, rfl, ⟨a0_0, rfl⟩, ft0_1⟩ := ft0_0.cons
  clear ft0_0
  obtain ⟨_, cs0_1, rfl, ⟨a0_1, rfl⟩, ft0_2⟩ := ft0_1.cons
  clear ft0_1
  obtain ⟨_, cs0_2, rfl, ⟨a0_2, rfl⟩, ft0_3⟩ := ft0_2.cons
  clear ft0_2
  obtain ⟨_, cs0_3, rfl, ⟨a0_3, rfl⟩, ft0_4⟩ := ft0_3.cons
  clear ft0_3
  obtain ⟨_, cs0_4, rfl, ⟨a0_4, rfl⟩, ft0_5⟩ := ft0_4.cons
  clear ft0_4
  obtain ⟨_, cs0_5, rfl, ⟨a0_5, rfl⟩, ft0_6⟩ := ft0_5.cons
  clear ft0_5
  obtain ⟨_, cs0_6, rfl, ⟨a0_6, rfl⟩, ft0_7⟩ := ft0_6.cons
  clear ft0_6
  obtain ⟨_, cs0_7, rfl, ⟨a0_7, rfl, w0_7⟩, ft0_8⟩ := ft0_7.cons
  clear ft0_7
  obtain ⟨_, cs0_8, rfl, ⟨a0_8, rfl⟩, ft0_9⟩ := ft0_8.cons
  clear ft0_8
  obtain ⟨_, cs0_9, rfl, ⟨a0_9, rfl⟩, ft0_10⟩ := ft0_9.cons
  clear ft0_9
  obtain ⟨_, cs0_10, rfl, ⟨a0_10, rfl, w0_10⟩, ft0_11⟩ := ft0_10.cons
  clear ft0_10
  obtain ⟨_, cs0_11, rfl, ⟨A0_11, len0_11, c0_11, rfl⟩, ft0_12⟩ := ft0_11.cons
  clear ft0_11
  obtain rfl := ft0_12.nil
  obtain ⟨d0_11, ps0_11, hT0_11⟩ := Flat.open_field 8 11 (st := 22) Try.underlying43 (by kernel_rfl) (by kernel_rfl) (by first | rfl | (simp; done)) (by first | rfl | kernel_rfl) h0
  have mk0_11 : ∀ cs, Flat.Fits [.bool, .int .i64, .int .i64, .int .i64, .int .i64] cs → ∃ x : S34, k34.K W x cs := by
    intro cs ft0
    obtain ⟨_, _, rfl, ⟨a0, rfl⟩, ft1⟩ := ft0.cons
    clear ft0
    obtain ⟨_, _, rfl, ⟨a1, rfl, w1⟩, ft2⟩ := ft1.cons
    clear ft1
    obtain ⟨_, _, rfl, ⟨a2, rfl, w2⟩, ft3⟩ := ft2.cons
    clear ft2
    obtain ⟨_, _, rfl, ⟨a3, rfl, w3⟩, ft4⟩ := ft3.cons
    clear ft3
    obtain ⟨_, _, rfl, ⟨a4, rfl, w4⟩, ft5⟩ := ft4.cons
    clear ft4
    obtain rfl := ft5.nil
    exact ⟨⟨a0, a1, a2, a3, a4⟩, k34_mk _ _⟩
  obtain ⟨hle0_11, _, l0_11, R0_11⟩ := Flat.open_rows (n := 8) (sz := 5) (ls := [.bool, .int .i64, .int .i64, .int .i64, .int .i64]) Try.underlying22 (by kernel_rfl) (by kernel_rfl) mk0_11 hT0_11
  obtain rfl : l0_11.length = len0_11 := R0_11.1
  have C0_11 : Kd.C k34 W A0_11 l0_11.length l0_11 := R0_11
  have k1 := h1
  have lt1 : ∀ x ∈ p1, x.block < W.heap.size := by obtain ⟨m, hm⟩ := k1; exact DataW.trod_lt m _ _ _ hm
  obtain ⟨A1, len1, c1, rfl⟩ := okWide_slice Try.underlying44 (hval 1 44 v1 rfl rfl)
  have mk1 : ∀ cs, Flat.Fits [.bool, .int .i64, .int .i64, .bool, .int .i64, .int .i64, .bool, .bool, .int .i64, .bool, .bool] cs → ∃ x : S31, k31.K W x cs ∧ ((Lit.int .i64 x.f0.f1).wf = true ∧ (Lit.int .i64 x.f0.f2).wf = true ∧ (Lit.int .i64 x.f1.f0).wf = true ∧ (Lit.int .i64 x.f1.f1).wf = true ∧ (Lit.int .i64 x.f3).wf = true) := by
    intro cs ft0
    obtain ⟨_, _, rfl, ⟨a0, rfl⟩, ft1⟩ := ft0.cons
    clear ft0
    obtain ⟨_, _, rfl, ⟨a1, rfl, w1⟩, ft2⟩ := ft1.cons
    clear ft1
    obtain ⟨_, _, rfl, ⟨a2, rfl, w2⟩, ft3⟩ := ft2.cons
    clear ft2
    obtain ⟨_, _, rfl, ⟨a3, rfl⟩, ft4⟩ := ft3.cons
    clear ft3
    obtain ⟨_, _, rfl, ⟨a4, rfl, w4⟩, ft5⟩ := ft4.cons
    clear ft4
    obtain ⟨_, _, rfl, ⟨a5, rfl, w5⟩, ft6⟩ := ft5.cons
    clear ft5
    obtain ⟨_, _, rfl, ⟨a6, rfl⟩, ft7⟩ := ft6.cons
    clear ft6
    obtain ⟨_, _, rfl, ⟨a7, rfl⟩, ft8⟩ := ft7.cons
    clear ft7
    obtain ⟨_, _, rfl, ⟨a8, rfl, w8⟩, ft9⟩ := ft8.cons
    clear ft8
    obtain ⟨_, _, rfl, ⟨a9, rfl⟩, ft10⟩ := ft9.cons
    clear ft9
    obtain ⟨_, _, rfl, ⟨a10, rfl⟩, ft11⟩ := ft10.cons
    clear ft10
    obtain rfl := ft11.nil
    exact ⟨⟨⟨a0, a1, a2, a3⟩, ⟨a4, a5, a6⟩, a7, a8, a9, a10⟩, k31_mk _ _, ⟨w1, w2, w4, w5, w8⟩⟩
  obtain ⟨hle1, _, l1, R1⟩ := Flat.open_rows (n := 8) (sz := 11) (ls := [.bool, .int .i64, .int .i64, .bool, .int .i64, .int .i64, .bool, .bool, .int .i64, .bool, .bool]) Try.underlying44 (by kernel_rfl) (by kernel_rfl) mk1 h1
  obtain rfl : l1.length = len1 := R1.1
  have ok1 : ∀ x ∈ l1, ((Lit.int .i64 x.f0.f1).wf = true ∧ (Lit.int .i64 x.f0.f2).wf = true ∧ (Lit.int .i64 x.f1.f0).wf = true ∧ (Lit.int .i64 x.f1.f1).wf = true ∧ (Lit.int .i64 x.f3).wf = true) := by
    intro x hx
    obtain ⟨j, hj, rfl⟩ := List.getElem_of_mem hx
    obtain ⟨_, _, hc⟩ := R1.2.2 (by omega)
    obtain ⟨_, _, hk, _⟩ := hc j _ (List.getElem?_eq_getElem hj)
    exact hk.2
  have C1 : Kd.C k31 W A1 l1.length l1 := R1.imp_ (Below.refl _ _) (fun _ _ hk => hk.1)
  have k2 := h2
  have lt2 : ∀ x ∈ p2, x.block < W.heap.size := by obtain ⟨m, hm⟩ := k2; exact DataW.trod_lt m _ _ _ hm
  obtain ⟨cs2, rfl, ft2_0⟩ := Flat.open_flat (n := 8) (ls := [.int .i64, .int .i64]) (by kernel_rfl) (hval 2 46 v2 rfl rfl) (by kernel_rfl) h2
  obtain ⟨_, cs2_0, rfl, ⟨a2_0, rfl, w2_0⟩, ft2_1⟩ := ft2_0.cons
  clear ft2_0
  obtain ⟨_, cs2_1, rfl, ⟨a2_1, rfl, w2_1⟩, ft2_2⟩ := ft2_1.cons
  clear ft2_1
  obtain rfl := ft2_2.nil
  have k3 := h3
  have lt3 : ∀ x ∈ p3, x.block < W.heap.size := by obtain ⟨m, hm⟩ := k3; exact DataW.trod_lt m _ _ _ hm
  obtain ⟨a3, rfl, rfl, rfl⟩ := open_bool Try.underlying4 (hval 3 4 v3 rfl rfl) h3
  have k4 := h4
  have lt4 : ∀ x ∈ p4, x.block < W.heap.size := by obtain ⟨m, hm⟩ := k4; exact DataW.trod_lt m _ _ _ hm
  obtain ⟨a4, rfl, rfl, rfl, w4⟩ := open_int Try.underlying3 (hval 4 3 v4 rfl rfl) h4
  clear hA0 hval0 hsz0
  have hp := Pure.PolicyRoutes a0_0 a0_1 a0_2 a0_3 a0_4 a0_5 a0_6 a0_7 a0_8 a0_9 a0_10 l0_11 l1 a2_0 a2_1 a3 a4 w0_7 w0_10 ok1 w2_0 w2_1 w4
  refine (crossbucklaw23_PolicyRoutes.calls a0_0 a0_1 a0_2 a0_3 a0_4 a0_5 a0_6 a0_7 a0_8 a0_9 a0_10 A0_11 c0_11 l0_11 A1 c1 l1 a2_0 a2_1 a3 a4 true W C0_11 hle0_11 C1 hle1 hp).mono fun e W' ⟨he, bel⟩ => ?_
  subst he
  exact ⟨_, rfl, _, _, _, [], _, [], hW', trodAll_mk1 (shut_bool Try.underlying4 _), (trodAll_cons_mk (Below.trod laidOut (by kernel_rfl) (of_decide_eq_true (by kernel_rfl)) k0 bel lt0) (trodAll_cons_mk (Below.trod laidOut (by kernel_rfl) (of_decide_eq_true (by kernel_rfl)) k1 bel lt1) (trodAll_cons_mk (Below.trod laidOut (by kernel_rfl) (of_decide_eq_true (by kernel_rfl)) k2 bel lt2) (trodAll_cons_mk (Below.trod laidOut (by kernel_rfl) (of_decide_eq_true (by kernel_rfl)) k3 bel lt3) (trodAll_cons_mk (Below.trod laidOut (by kernel_rfl) (of_decide_eq_true (by kernel_rfl)) k4 bel lt4) trodAll_mk0))))), rfl, bel.frame _, fun h => by cases h⟩
theorem over : Rows.policyRoutesRow.holds Try.pinned (OpenSpec.ofChange Rows.policyRoutesSpec) :=
  OpenClaim.holds_of_wide 12 Try.f12 rfl rfl rfl rfl rfl rfl rfl ⟨rfl, rfl, rfl, rfl, rfl⟩ rfl rfl rfl rfl rfl (by kernel_rfl) Try.func12 (by kernel_rfl)
    (of_decide_eq_true (by kernel_rfl)) (by unfold Func.isWrapper; first | (rw [if_pos (by decide +kernel)]; kernel_rfl) | (rw [if_neg (by decide +kernel)]; exact ⟨rfl, rfl⟩))
    (fun os started H enc _ => lifted os started H enc)
theorem proved : Rows.PolicyRoutesSaid := over
#print axioms proved
end Go.Proofs.Ytnmcnailgdcmoaa.policyRoutes
namespace Go.Proofs.Ytnmcnailgdcmoaa
/-- The row, under a short name, for the claim. -/
theorem policyRoutes_holds : Rows.PolicyRoutesSaid := policyRoutes.proved
end Go.Proofs.Ytnmcnailgdcmoaa
