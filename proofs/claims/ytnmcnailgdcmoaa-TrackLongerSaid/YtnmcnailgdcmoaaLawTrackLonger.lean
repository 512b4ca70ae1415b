/- The law crossbuck/crossbucklaw12.TrackLonger holds of the given program at every input: no condition. -/
import Derived.Test.YtnmcnailgdcmoaaRows
import Derived.Test.YtnmcnailgdcmoaaFlat
import Derived.Test.YtnmcnailgdcmoaaHandTrackLonger
import Derived.WalkKit
import Derived.ProofKit
import Derived.OpenShut
import Derived.ShutString
import Derived.ChangeOld
import Derived.Below
import Derived.SizedLaws
namespace Go.Proofs.Ytnmcnailgdcmoaa.trackLonger
open Go.ChangeShapes Go.WideShapes Go.ChangeAt Go.RowKit Go.Proofs.YtnmcnailgdcmoaaW.PrintWords Go.Proofs.YtnmcnailgdcmoaaW.PrintLast Go.Proofs.Ytnmcnailgdcmoaa.B
set_option linter.unusedVariables false
set_option linter.unusedSimpArgs false
theorem own : ownKnob Try.prog.godebug = none := by kernel_rfl
theorem laidOut : laidOutB Try.prog = true := by kernel_rfl
set_option maxHeartbeats 4000000 in
set_option maxRecDepth 100000 in
theorem lifted (os : Os) (started : os.Started) (H : Type) (enc : TypeId × Value → H) :
    ReturnsInHanded {} Try.checked os 7 .any (Rows.trackLongerSpec.pre6 enc Try.prog Try.f7 Rows.trackLongerRow.domain false) (Rows.trackLongerSpec.post enc Try.prog Try.f7 false true false false) := by
  refine returnsInHanded_of_change_sized (C := Try.checked) own started (by kernel_rfl) Try.func7
    (ChangeSpec.witness6 (enc := enc) (C := Try.checked) false ⟨#[], #[.agg #[.bool false, .int .i64 0, .int .i64 0, .bool false, .int .i64 0, .int .i64 0, .bool false, .bool false, .int .i64 0, .bool false, .bool false], .agg #[.bool false, .int .i64 0, .int .i64 0, .int .i64 0, .int .i64 0], .agg #[.int .i64 0, .int .i64 0, .int .i64 0], .agg #[.int .i64 0, .int .i64 0, .int .i64 0], .bool false], []⟩ 8 (by kernel_rfl) (by kernel_rfl) (by kernel_rfl) (by kernel_rfl)) ?_
  intro W base args ds gs before hval0 hW hcnd hsz0 _
  have hval : ∀ (j : Nat) t v, Try.f7.params[j]? = some t → args[j]? = some v → Value.okWide Try.prog W .any base t v := hval0
  have hW' := hW
  obtain ⟨p, q, hA0, hV, rfl, hfz, hnd⟩ := hW
  have hA : DataW.TrodAll enc Try.prog W 0 (fun _ => true) true Try.f7.params.toList args.toList ds p := hA0
  rw [Try.params7] at hA hval
  obtain ⟨v0, vs0, d0, ds0, p0, q0, hargs, rfl, rfl, h0, r0⟩ := trodAll_cons hA
  obtain ⟨v1, vs1, d1, ds1, p1, q1, rfl, rfl, rfl, h1, r1⟩ := trodAll_cons r0
  obtain ⟨v2, vs2, d2, ds2, p2, q2, rfl, rfl, rfl, h2, r2⟩ := trodAll_cons r1
  obtain ⟨v3, vs3, d3, ds3, p3, q3, rfl, rfl, rfl, h3, r3⟩ := trodAll_cons r2
  obtain ⟨v4, vs4, d4, ds4, p4, q4, rfl, rfl, rfl, h4, r4⟩ := trodAll_cons r3
  obtain ⟨rfl, rfl, rfl⟩ := trodAll_nil r4
  obtain rfl : args = #[v0, v1, v2, v3, v4] := by cases args; simp_all
  obtain ⟨rfl, rfl⟩ := trodVars_none hV
  have k0 := h0
  have lt0 : ∀ x ∈ p0, x.block < W.heap.size := by obtain ⟨m, hm⟩ := k0; exact DataW.trod_lt m _ _ _ hm
  obtain ⟨cs0, rfl, ft0_0⟩ := Flat.open_flat (n := 8) (ls := [.bool, .int .i64, .int .i64, .bool, .int .i64, .int .i64, .bool, .bool, .int .i64, .bool, .bool]) (by kernel_rfl) (hval 0 31 v0 rfl rfl) (by kernel_rfl) h0
  obtain ⟨_, cs0_0, rfl, ⟨a0_0, rfl⟩, ft0_1⟩ := ft0_0.cons
  clear ft0_0
  obtain ⟨_, cs0_1, rfl, ⟨a0_1, rfl, w0_1⟩, ft0_2⟩ := ft0_1.cons
  clear ft0_1
  obtain ⟨_, cs0_2, rfl, ⟨a0_2, rfl, w0_2⟩, ft0_3⟩ := ft0_2.cons
  clear ft0_2
  obtain ⟨_, cs0_3, rfl, ⟨a0_3, rfl⟩, ft0_4⟩ := ft0_3.cons
  clear ft0_3
  obtain ⟨_, cs0_4, rfl, ⟨a0_4, rfl, w0_4⟩, ft0_5⟩ := ft0_4.cons
  clear ft0_4
  obtain ⟨_, cs0_5, rfl, ⟨a0_5, rfl, w0_5⟩, ft0_6⟩ := ft0_5.cons
  clear ft0_5
  obtain ⟨_, cs0_6, rfl, ⟨a0_6, rfl⟩, ft0_7⟩ := ft0_6.cons
  clear ft0_6
  obtain ⟨_, cs0_7, rfl, ⟨a0_7, rfl⟩, ft0_8⟩ := ft0_7.cons
  clear ft0_7
  obtain ⟨_, cs0_8, rfl, ⟨a0_8, rfl, w0_8⟩, ft0_9⟩ := ft0_8.cons
  clear ft0_8
  obtain ⟨_, cs0_9, rfl, ⟨a0_9, rfl⟩, ft0_10⟩ := ft0_9.cons
  clear ft0_9
  obtain ⟨_, cs0_10, rfl, ⟨a0_10, rfl⟩, ft0_11⟩ := ft0_10.cons
  clear ft0_10
  obtain rfl := ft0_11.nil
  have k1 := h1
  have lt1 : ∀ x ∈ p1, x.block < W.heap.size := by obtain ⟨m, hm⟩ := k1; exact DataW.trod_lt m _ _ _ hm
  obtain ⟨cs1, rfl, ft1_0⟩ := Flat.open_flat (n := 8) (ls := [.bool, .int .i64, .int .i64, .int .i64, .int .i64]) (by kernel_rfl) (hval 1 34 v1 rfl rfl) (by kernel_rfl) h1
  obtain ⟨_, cs1_0, rfl, ⟨a1_0, rfl⟩, ft1_1⟩ := ft1_0.cons
  clear ft1_0
  obtain ⟨_, cs1_1, rfl, ⟨a1_1, rfl, w1_1⟩, ft1_2⟩ := ft1_1.cons
  clear ft1_1
  obtain ⟨_, cs1_2, rfl, ⟨a1_2, rfl, w1_2⟩, ft1_3⟩ := ft1_2.cons
  clear ft1_2
  obtain ⟨_, cs1_3, rfl, ⟨a1_3, rfl, w1_3⟩, ft1_4⟩ := ft1_3.cons
  clear ft1_3
  obtain ⟨_, cs1_4, rfl, ⟨a1_4, rfl, w1_4⟩, ft1_5⟩ := ft1_4.cons
  clear ft1_4
  obtain rfl := ft1_5.nil
  have k2 := h2
  have lt2 : ∀ x ∈ p2, x.block < W.heap.size := by obtain ⟨m, hm⟩ := k2; exact DataW.trod_lt m _ _ _ hm
  obtain ⟨cs2, rfl, ft2_0⟩ := Flat.open_flat (n := 8) (ls := [.int .i64, .int .i64, .int .i64]) (by kernel_rfl) (hval 2 23 v2 rfl rfl) (by kernel_rfl) h2
  obtain ⟨_, cs2_0, rfl, ⟨a2_0, rfl, w2_0⟩, ft2_1⟩ := ft2_0.cons
  clear ft2_0
  obtain ⟨_, cs2_1, rfl, ⟨a2_1, rfl, w2_1⟩, ft2_2⟩ := ft2_1.cons
  clear ft2_1
  obtain ⟨_, cs2_2, rfl, ⟨a2_2, rfl, w2_2⟩, ft2_3⟩ := ft2_2.cons
  clear ft2_2
  obtain rfl := ft2_3.nil
  have k3 := h3
  have lt3 : ∀ x ∈ p3, x.block < W.heap.size := by obtain ⟨m, hm⟩ := k3; exact DataW.trod_lt m _ _ _ hm
  obtain ⟨cs3, rfl, ft3_0⟩ := Flat.open_flat (n := 8) (ls := [.int .i64, .int .i64, .int .i64]) (by kernel_rfl) (hval 3 23 v3 rfl rfl) (by kernel_rfl) h3
  obtain ⟨_, cs3_0, rfl, ⟨a3_0, rfl, w3_0⟩, ft3_1⟩ := ft3_0.cons
  clear ft3_0
  obtain ⟨_, cs3_1, rfl, ⟨a3_1, rfl, w3_1⟩, ft3_2⟩ := ft3_1.cons
  clear ft3_1
  obtain ⟨_, cs3_2, rfl, ⟨a3_2, rfl, w3_2⟩, ft3_3⟩ := ft3_2.cons
  clear ft3_2
  obtain rfl := ft3_3.nil
  have k4 := h4
  have lt4 : ∀ x ∈ p4, x.block < W.heap.size := by obtain ⟨m, hm⟩ := k4; exact DataW.trod_lt m _ _ _ hm
  obtain ⟨a4, rfl, rfl, rfl⟩ := open_bool Try.underlying4 (hval 4 4 v4 rfl rfl) h4
  clear hA0 hval0 hsz0
  refine (B.Longer.walk W a0_0 a0_1 a0_2 a0_3 a0_4 a0_5 a0_6 a0_7 a0_8 a0_9 a0_10 a1_0 a1_1 a1_2 a1_3 a1_4 a2_0 a2_1 a2_2 a3_0 a3_1 a3_2 a4 w0_1 w0_2 w0_4 w0_5 w0_8 w1_1 w1_2 w1_3 w1_4 w2_0 w2_1 w2_2 w3_0 w3_1 w3_2).mono fun e W' ⟨he, bel⟩ => ?_
  subst he
  exact ⟨_, rfl, _, _, _, [], _, [], hW', trodAll_mk1 (shut_bool Try.underlying4 _), (trodAll_cons_mk (Below.trod laidOut (by kernel_rfl) (of_decide_eq_true (by kernel_rfl)) k0 bel lt0) (trodAll_cons_mk (Below.trod laidOut (by kernel_rfl) (of_decide_eq_true (by kernel_rfl)) k1 bel lt1) (trodAll_cons_mk (Below.trod laidOut (by kernel_rfl) (of_decide_eq_true (by kernel_rfl)) k2 bel lt2) (trodAll_cons_mk (Below.trod laidOut (by kernel_rfl) (of_decide_eq_true (by kernel_rfl)) k3 bel lt3) (trodAll_cons_mk (Below.trod laidOut (by kernel_rfl) (of_decide_eq_true (by kernel_rfl)) k4 bel lt4) trodAll_mk0))))), rfl, bel.frame _, fun h => by cases h⟩
theorem over : Rows.trackLongerRow.holds Try.pinned (OpenSpec.ofChange Rows.trackLongerSpec) :=
  OpenClaim.holds_of_wide 7 Try.f7 rfl rfl rfl rfl rfl rfl rfl ⟨rfl, rfl, rfl, rfl, rfl⟩ rfl rfl rfl rfl rfl (by kernel_rfl) Try.func7 (by kernel_rfl)
    (of_decide_eq_true (by kernel_rfl)) (by unfold Func.isWrapper; first | (rw [if_pos (by decide +kernel)]; kernel_rfl) | (rw [if_neg (by decide +kernel)]; exact ⟨rfl, rfl⟩))
    (fun os started H enc _ => lifted os started H enc)
theorem proved : Rows.TrackLongerSaid := over
#print axioms proved
end Go.Proofs.Ytnmcnailgdcmoaa.trackLonger
namespace Go.Proofs.Ytnmcnailgdcmoaa
/-- The row, under a short name, for the claim. -/
theorem trackLonger_holds : Rows.TrackLongerSaid := trackLonger.proved
end Go.Proofs.Ytnmcnailgdcmoaa
