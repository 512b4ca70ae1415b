/- The law crossbuck/crossbucklaw12.TrackSafe holds of the given program at every input: no condition. -/
import Derived.Test.YtnmcnailgdcmoaaRows
import Derived.Test.YtnmcnailgdcmoaaFlat
import Derived.Test.YtnmcnailgdcmoaaHandTrackSafe
import Derived.WalkKit
import Derived.ProofKit
import Derived.OpenShut
import Derived.ShutString
import Derived.ChangeOld
import Derived.Below
import Derived.SizedLaws
namespace Go.Proofs.Ytnmcnailgdcmoaa.trackSafe
open Go.ChangeShapes Go.WideShapes Go.ChangeAt Go.RowKit Go.Proofs.YtnmcnailgdcmoaaW.PrintWords Go.Proofs.YtnmcnailgdcmoaaW.PrintLast Go.Proofs.Ytnmcnailgdcmoaa.B
set_option linter.unusedVariables false
set_option linter.unusedSimpArgs false
theorem own : ownKnob Try.prog.godebug = none := by kernel_rfl
theorem laidOut : laidOutB Try.prog = true := by kernel_rfl
set_option maxHeartbeats 4000000 in
set_option maxRecDepth 100000 in
theorem lifted (os : Os) (started : os.Started) (H : Type) (enc : TypeId × Value → H) :
    ReturnsInHanded {} Try.checked os 3 .any (Rows.trackSafeSpec.pre6 enc Try.prog Try.f3 Rows.trackSafeRow.domain false) (Rows.trackSafeSpec.post enc Try.prog Try.f3 false true false false) := by
  refine returnsInHanded_of_change_sized (C := Try.checked) own started (by kernel_rfl) Try.func3
    (ChangeSpec.witness6 (enc := enc) (C := Try.checked) false ⟨#[], #[.slice none 0 0, .agg #[.int .i64 0, .int .i64 0, .int .i64 0], .slice none 0 0], []⟩ 8 (by kernel_rfl) (by kernel_rfl) (by kernel_rfl) (by kernel_rfl)) ?_
  intro W base args ds gs before hval0 hW hcnd hsz0 _
  have hval : ∀ (j : Nat) t v, Try.f3.params[j]? = some t → args[j]? = some v → Value.okWide Try.prog W .any base t v := hval0
  have hW' := hW
  obtain ⟨p, q, hA0, hV, rfl, hfz, hnd⟩ := hW
  have hA : DataW.TrodAll enc Try.prog W 0 (fun _ => true) true Try.f3.params.toList args.toList ds p := hA0
  rw [Try.params3] at hA hval
  obtain ⟨v0, vs0, d0, ds0, p0, q0, hargs, rfl, rfl, h0, r0⟩ := trodAll_cons hA
  obtain ⟨v1, vs1, d1, ds1, p1, q1, rfl, rfl, rfl, h1, r1⟩ := trodAll_cons r0
  obtain ⟨v2, vs2, d2, ds2, p2, q2, rfl, rfl, rfl, h2, r2⟩ := trodAll_cons r1
  obtain ⟨rfl, rfl, rfl⟩ := trodAll_nil r2
  obtain rfl : args = #[v0, v1, v2] := by cases args; simp_all
  obtain ⟨rfl, rfl⟩ := trodVars_none hV
  have k0 := h0
  have lt0 : ∀ x ∈ p0, x.block < W.heap.size := by obtain ⟨m, hm⟩ := k0; exact DataW.trod_lt m _ _ _ hm
  obtain ⟨A0, len0, c0, rfl⟩ := okWide_slice Try.underlying22 (hval 0 22 v0 rfl rfl)
  have mk0 : ∀ cs, Flat.Fits [.bool, .int .i64, .int .i64, .int .i64, .int .i64] cs → ∃ x : S34, k34.K W x cs ∧ ((Lit.int .i64 x.f1).wf = true ∧ (Lit.int .i64 x.f2).wf = true ∧ (Lit.int .i64 x.f3).wf = true ∧ (Lit.int .i64 x.f4).wf = true) := by
    intro cs ft0
    obtain ⟨_, _, rfl, ⟨a0, rfl⟩, ft1⟩ := ft0.cons
    clear ft0
    obtain ⟨_, _, rfl, ⟨a1, rfl, w1⟩, ft2⟩ := ft1.cons
    clear ft1
    obtain ⟨_, _, rfl, ⟨a2, rfl, w2⟩, ft3⟩ := ft2.cons
    clear ft2
    obtain ⟨_, _, rfl, ⟨a3, rfl, w3⟩, ft4⟩ := ft3.cons
    clear ft3
    obtain ⟨_, _, rfl, ⟨a4, rfl, w4⟩, ft5⟩ := ft4.cons
    clear ft4
    obtain rfl := ft5.nil
    exact ⟨⟨a0, a1, a2, a3, a4⟩, k34_mk _ _, ⟨w1, w2, w3, w4⟩⟩
  obtain ⟨hle0, _, l0, R0⟩ := Flat.open_rows (n := 8) (sz := 5) (ls := [.bool, .int .i64, .int .i64, .int .i64, .int .i64]) Try.underlying22 (by kernel_rfl) (by kernel_rfl) mk0 h0
  obtain rfl : l0.length = len0 := R0.1
  have ok0 : ∀ x ∈ l0, ((Lit.int .i64 x.f1).wf = true ∧ (Lit.int .i64 x.f2).wf = true ∧ (Lit.int .i64 x.f3).wf = true ∧ (Lit.int .i64 x.f4).wf = true) := by
    intro x hx
    obtain ⟨j, hj, rfl⟩ := List.getElem_of_mem hx
    obtain ⟨_, _, hc⟩ := R0.2.2 (by omega)
    obtain ⟨_, _, hk, _⟩ := hc j _ (List.getElem?_eq_getElem hj)
    exact hk.2
  have C0 : Kd.C k34 W A0 l0.length l0 := R0.imp_ (Below.refl _ _) (fun _ _ hk => hk.1)
  have k1 := h1
  have lt1 : ∀ x ∈ p1, x.block < W.heap.size := by obtain ⟨m, hm⟩ := k1; exact DataW.trod_lt m _ _ _ hm
  obtain ⟨cs1, rfl, ft1_0⟩ := Flat.open_flat (n := 8) (ls := [.int .i64, .int .i64, .int .i64]) (by kernel_rfl) (hval 1 23 v1 rfl rfl) (by kernel_rfl) h1
  obtain ⟨_, cs1_0, rfl, ⟨a1_0, rfl, w1_0⟩, ft1_1⟩ := ft1_0.cons
  clear ft1_0
  obtain ⟨_, cs1_1, rfl, ⟨a1_1, rfl, w1_1⟩, ft1_2⟩ := ft1_1.cons
  clear ft1_1
  obtain ⟨_, cs1_2, rfl, ⟨a1_2, rfl, w1_2⟩, ft1_3⟩ := ft1_2.cons
  clear ft1_2
  obtain rfl := ft1_3.nil
  have k2 := h2
  have lt2 : ∀ x ∈ p2, x.block < W.heap.size := by obtain ⟨m, hm⟩ := k2; exact DataW.trod_lt m _ _ _ hm
  obtain ⟨A2, len2, c2, rfl⟩ := okWide_slice Try.underlying24 (hval 2 24 v2 rfl rfl)
  have mk2 : ∀ cs, Flat.Fits [.bool] cs → ∃ x : Bool, Kd.bool.K W x cs ∧ (True) := by
    intro cs ft0
    obtain ⟨_, _, rfl, ⟨a0, rfl⟩, ft1⟩ := ft0.cons
    clear ft0
    obtain rfl := ft1.nil
    exact ⟨a0, rfl, trivial⟩
  obtain ⟨hle2, _, l2, R2⟩ := Flat.open_rows (n := 8) (sz := 1) (ls := [.bool]) Try.underlying24 (by kernel_rfl) (by kernel_rfl) mk2 h2
  obtain rfl : l2.length = len2 := R2.1
  have ok2 : ∀ x ∈ l2, (True) := by
    intro x hx
    obtain ⟨j, hj, rfl⟩ := List.getElem_of_mem hx
    obtain ⟨_, _, hc⟩ := R2.2.2 (by omega)
    obtain ⟨_, _, hk, _⟩ := hc j _ (List.getElem?_eq_getElem hj)
    exact hk.2
  have C2 : Kd.C Kd.bool W A2 l2.length l2 := R2.imp_ (Below.refl _ _) (fun _ _ hk => hk.1)
  clear hA0 hval0 hsz0
  refine (B.Safe.walk W A0 c0 l0 a1_0 a1_1 a1_2 A2 c2 l2 ok0 w1_0 w1_1 w1_2 hle0 C0 hle2 C2).mono fun e W' ⟨he, bel⟩ => ?_
  subst he
  exact ⟨_, rfl, _, _, _, [], _, [], hW', trodAll_mk1 (shut_bool Try.underlying4 _), (trodAll_cons_mk (Below.trod laidOut (by kernel_rfl) (of_decide_eq_true (by kernel_rfl)) k0 bel lt0) (trodAll_cons_mk (Below.trod laidOut (by kernel_rfl) (of_decide_eq_true (by kernel_rfl)) k1 bel lt1) (trodAll_cons_mk (Below.trod laidOut (by kernel_rfl) (of_decide_eq_true (by kernel_rfl)) k2 bel lt2) trodAll_mk0))), rfl, bel.frame _, fun h => by cases h⟩
theorem over : Rows.trackSafeRow.holds Try.pinned (OpenSpec.ofChange Rows.trackSafeSpec) :=
  OpenClaim.holds_of_wide 3 Try.f3 rfl rfl rfl rfl rfl rfl rfl ⟨rfl, rfl, rfl, rfl, rfl⟩ rfl rfl rfl rfl rfl (by kernel_rfl) Try.func3 (by kernel_rfl)
    (of_decide_eq_true (by kernel_rfl)) (by unfold Func.isWrapper; first | (rw [if_pos (by decide +kernel)]; kernel_rfl) | (rw [if_neg (by decide +kernel)]; exact ⟨rfl, rfl⟩))
    (fun os started H enc _ => lifted os started H enc)
theorem proved : Rows.TrackSafeSaid := over
#print axioms proved
end Go.Proofs.Ytnmcnailgdcmoaa.trackSafe
namespace Go.Proofs.Ytnmcnailgdcmoaa
/-- The row, under a short name, for the claim. -/
theorem trackSafe_holds : Rows.TrackSafeSaid := trackSafe.proved
end Go.Proofs.Ytnmcnailgdcmoaa
