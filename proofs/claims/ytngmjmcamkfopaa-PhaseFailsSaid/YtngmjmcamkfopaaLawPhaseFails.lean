/- The law crossbuck/crossbucklaw20.PhaseFails holds of the given program at every input: no condition. -/
import Derived.Test.YtngmjmcamkfopaaRows
import Derived.Test.YtngmjmcamkfopaaFlat
import Derived.Test.YtngmjmcamkfopaaPurePhaseFails
import Derived.WalkKit
import Derived.ProofKit
import Derived.OpenShut
import Derived.ShutString
import Derived.ChangeOld
import Derived.Below
import Derived.SizedLaws
namespace Go.Proofs.Ytngmjmcamkfopaa.phaseFails
open Go.ChangeShapes Go.WideShapes Go.ChangeAt Go.RowKit Go.Proofs.YtngmjmcamkfopaaW.PrintWords Go.Proofs.YtngmjmcamkfopaaW.PrintLast Go.Proofs.Ytngmjmcamkfopaa.A
set_option linter.unusedVariables false
set_option linter.unusedSimpArgs false
theorem own : ownKnob Try.prog.godebug = none := by kernel_rfl
theorem laidOut : laidOutB Try.prog = true := by kernel_rfl
set_option maxRecDepth 100000 in
theorem lifted (os : Os) (started : os.Started) (H : Type) (enc : TypeId × Value → H) :
    ReturnsInHanded {} Try.checked os 7 .any (Rows.phaseFailsSpec.pre6 enc Try.prog Try.f7 Rows.phaseFailsRow.domain false) (Rows.phaseFailsSpec.post enc Try.prog Try.f7 false true false false) := by
  refine returnsInHanded_of_change_sized (C := Try.checked) own started (by kernel_rfl) Try.func7
    (ChangeSpec.witness6 (enc := enc) (C := Try.checked) false ⟨#[], #[.int .i64 0, .slice none 0 0, .agg #[.int .i64 0, .int .i64 0, .int .i64 0, .int .i64 0, .int .i64 0, .int .i64 0, .int .i64 0, .int .i64 0, .int .i64 0, .int .i64 0]], []⟩ 8 (by kernel_rfl) (by kernel_rfl) (by kernel_rfl) (by kernel_rfl)) ?_
  intro W base args ds gs before hval0 hW hcnd hsz0 _
  have hval : ∀ (j : Nat) t v, Try.f7.params[j]? = some t → args[j]? = some v → Value.okWide Try.prog W .any base t v := hval0
  have hW' := hW
  obtain ⟨p, q, hA0, hV, rfl, hfz, hnd⟩ := hW
  have hA : DataW.TrodAll enc Try.prog W 0 (fun _ => true) true Try.f7.params.toList args.toList ds p := hA0
  rw [Try.params7] at hA hval
  obtain ⟨v0, vs0, d0, ds0, p0, q0, hargs, rfl, rfl, h0, r0⟩ := trodAll_cons hA
  obtain ⟨v1, vs1, d1, ds1, p1, q1, rfl, rfl, rfl, h1, r1⟩ := trodAll_cons r0
  obtain ⟨v2, vs2, d2, ds2, p2, q2, rfl, rfl, rfl, h2, r2⟩ := trodAll_cons r1
  obtain ⟨rfl, rfl, rfl⟩ := trodAll_nil r2
  obtain rfl : args = #[v0, v1, v2] := by cases args; simp_all
  obtain ⟨rfl, rfl⟩ := trodVars_none hV
  have k0 := h0
  have lt0 : ∀ x ∈ p0, x.block < W.heap.size := by obtain ⟨m, hm⟩ := k0; exact DataW.trod_lt m _ _ _ hm
  obtain ⟨a0, rfl, rfl, rfl, w0⟩ := open_int Try.underlying3 (hval 0 3 v0 rfl rfl) h0
  have k1 := h1
  have lt1 : ∀ x ∈ p1, x.block < W.heap.size := by obtain ⟨m, hm⟩ := k1; exact DataW.trod_lt m _ _ _ hm
  obtain ⟨A1, len1, c1, rfl⟩ := okWide_slice Try.underlying24 (hval 1 24 v1 rfl rfl)
  have mk1 : ∀ cs, Flat.Fits [.bool, .bool, .bool, .bool, .bool, .bool, .bool] cs → ∃ x : S36, k36.K W x cs ∧ (True) := by
    intro cs ft0
    obtain ⟨_, _, rfl, ⟨a0, rfl⟩, ft1⟩ := ft0.cons
    clear ft0
    obtain ⟨_, _, rfl, ⟨a1, rfl⟩, ft2⟩ := ft1.cons
    clear ft1
    obtain ⟨_, _, rfl, ⟨a2, rfl⟩, ft3⟩ := ft2.cons
    clear ft2
    obtain ⟨_, _, rfl, ⟨a3, rfl⟩, ft4⟩ := ft3.cons
    clear ft3
    obtain ⟨_, _, rfl, ⟨a4, rfl⟩, ft5⟩ := ft4.cons
    clear ft4
    obtain ⟨_, _, rfl, ⟨a5, rfl⟩, ft6⟩ := ft5.cons
    clear ft5
    obtain ⟨_, _, rfl, ⟨a6, rfl⟩, ft7⟩ := ft6.cons
    clear ft6
    obtain rfl := ft7.nil
    exact ⟨⟨⟨a0, a1⟩, ⟨a2, a3, a4, a5⟩, a6⟩, k36_mk _ _, trivial⟩
  obtain ⟨hle1, _, l1, R1⟩ := Flat.open_rows (n := 8) (sz := 7) (ls := [.bool, .bool, .bool, .bool, .bool, .bool, .bool]) Try.underlying24 (by kernel_rfl) (by kernel_rfl) mk1 h1
  obtain rfl : l1.length = len1 := R1.1
  have ok1 : ∀ x ∈ l1, (True) := by
    intro x hx
    obtain ⟨j, hj, rfl⟩ := List.getElem_of_mem hx
    obtain ⟨_, _, hc⟩ := R1.2.2 (by omega)
    obtain ⟨_, _, hk, _⟩ := hc j _ (List.getElem?_eq_getElem hj)
    exact hk.2
  have C1 : Kd.C k36 W A1 l1.length l1 := R1.imp_ (Below.refl _ _) (fun _ _ hk => hk.1)
  have k2 := h2
  have lt2 : ∀ x ∈ p2, x.block < W.heap.size := by obtain ⟨m, hm⟩ := k2; exact DataW.trod_lt m _ _ _ hm
  obtain ⟨cs2, rfl, ft2_0⟩ := Flat.open_flat (n := 8) (ls := [.int .i64, .int .i64, .int .i64, .int .i64, .int .i64, .int .i64, .int .i64, .int .i64, .int .i64, .int .i64]) (by kernel_rfl) (hval 2 23 v2 rfl rfl) (by kernel_rfl) h2
  obtain ⟨_, cs2_0, rfl, ⟨a2_0, rfl, w2_0⟩, ft2_1⟩ := ft2_0.cons
  clear ft2_0
  obtain ⟨_, cs2_1, rfl, ⟨a2_1, rfl, w2_1⟩, ft2_2⟩ := ft2_1.cons
  clear ft2_1
  obtain ⟨_, cs2_2, rfl, ⟨a2_2, rfl, w2_2⟩, ft2_3⟩ := ft2_2.cons
  clear ft2_2
  obtain ⟨_, cs2_3, rfl, ⟨a2_3, rfl, w2_3⟩, ft2_4⟩ := ft2_3.cons
  clear ft2_3
  obtain ⟨_, cs2_4, rfl, ⟨a2_4, rfl, w2_4⟩, ft2_5⟩ := ft2_4.cons
  clear ft2_4
  obtain ⟨_, cs2_5, rfl, ⟨a2_5, rfl, w2_5⟩, ft2_6⟩ := ft2_5.cons
  clear ft2_5
  obtain ⟨_, cs2_6, rfl, ⟨a2_6, rfl, w2_6⟩, ft2_7⟩ := ft2_6.cons
  clear ft2_6
  obtain ⟨_, cs2_7, rfl, ⟨a2_7, rfl, w2_7⟩, ft2_8⟩ := ft2_7.cons
  clear ft2_7
  obtain ⟨_, cs2_8, rfl, ⟨a2_8, rfl, w2_8⟩, ft2_9⟩ := ft2_8.cons
  clear ft2_8
  obtain ⟨_, cs2_9, rfl, ⟨a2_9, rfl, w2_9⟩, ft2_10⟩ := ft2_9.cons
  clear ft2_9
  obtain rfl := ft2_10.nil
  clear hA0 hval0 hsz0
  obtain ⟨k, hp⟩ := Pure.PhaseFails a0 l1 a2_0 a2_1 a2_2 a2_3 a2_4 a2_5 a2_6 a2_7 a2_8 a2_9 w0 w2_0 w2_1 w2_2 w2_3 w2_4 w2_5 w2_6 w2_7 w2_8 w2_9
  refine (crossbucklaw20_PhaseFails.calls k a0 A1 c1 l1 a2_0 a2_1 a2_2 a2_3 a2_4 a2_5 a2_6 a2_7 a2_8 a2_9 true W C1 hle1 hp).mono fun e W' ⟨he, bel⟩ => ?_
  subst he
  exact ⟨_, rfl, _, _, _, [], _, [], hW', trodAll_mk1 (shut_bool Try.underlying4 _), (trodAll_cons_mk (Below.trod laidOut (by kernel_rfl) (of_decide_eq_true (by kernel_rfl)) k0 bel lt0) (trodAll_cons_mk (Below.trod laidOut (by kernel_rfl) (of_decide_eq_true (by kernel_rfl)) k1 bel lt1) (trodAll_cons_mk (Below.trod laidOut (by kernel_rfl) (of_decide_eq_true (by kernel_rfl)) k2 bel lt2) trodAll_mk0))), rfl, bel.frame _, fun h => by cases h⟩
theorem over : Rows.phaseFailsRow.holds Try.pinned (OpenSpec.ofChange Rows.phaseFailsSpec) :=
  OpenClaim.holds_of_wide 7 Try.f7 rfl rfl rfl rfl rfl rfl rfl ⟨rfl, rfl, rfl, rfl, rfl⟩ rfl rfl rfl rfl rfl (by kernel_rfl) Try.func7 (by kernel_rfl)
    (of_decide_eq_true (by kernel_rfl)) (by unfold Func.isWrapper; first | (rw [if_pos (by decide +kernel)]; kernel_rfl) | (rw [if_neg (by decide +kernel)]; exact ⟨rfl, rfl⟩))
    (fun os started H enc _ => lifted os started H enc)
theorem proved : Rows.PhaseFailsSaid := over
#print axioms proved
end Go.Proofs.Ytngmjmcamkfopaa.phaseFails
namespace Go.Proofs.Ytngmjmcamkfopaa
/-- The row, under a short name, for the claim. -/
theorem phaseFails_holds : Rows.PhaseFailsSaid := phaseFails.proved
end Go.Proofs.Ytngmjmcamkfopaa
