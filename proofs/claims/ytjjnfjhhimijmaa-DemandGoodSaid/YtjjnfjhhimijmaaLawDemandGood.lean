/- The law crossbuck/crossbucklaw19.DemandGood holds of the given program at every input: no condition. -/
import Derived.Test.YtjjnfjhhimijmaaRows
import Derived.Test.YtjjnfjhhimijmaaFlat
import Derived.Test.YtjjnfjhhimijmaaPureDemandGood
import Derived.WalkKit
import Derived.ProofKit
import Derived.OpenShut
import Derived.ShutString
import Derived.ChangeOld
import Derived.Below
import Derived.SizedLaws
namespace Go.Proofs.Ytjjnfjhhimijmaa.demandGood
open Go.ChangeShapes Go.WideShapes Go.ChangeAt Go.RowKit Go.Proofs.YtjjnfjhhimijmaaW.PrintWords Go.Proofs.YtjjnfjhhimijmaaW.PrintLast Go.Proofs.Ytjjnfjhhimijmaa.A
set_option linter.unusedVariables false
set_option linter.unusedSimpArgs false
theorem own : ownKnob Try.prog.godebug = none := by kernel_rfl
theorem laidOut : laidOutB Try.prog = true := by kernel_rfl
set_option maxRecDepth 100000 in
theorem lifted (os : Os) (started : os.Started) (H : Type) (enc : TypeId × Value → H) :
    ReturnsInHanded {} Try.checked os 7 .any (Rows.demandGoodSpec.pre6 enc Try.prog Try.f7 Rows.demandGoodRow.domain false) (Rows.demandGoodSpec.post enc Try.prog Try.f7 false true false false) := by
  refine returnsInHanded_of_change_sized (C := Try.checked) own started (by kernel_rfl) Try.func7
    (ChangeSpec.witness6 (enc := enc) (C := Try.checked) false ⟨#[], #[.agg #[.bool false, .bool false, .bool false, .bool false, .bool false, .bool false, .bool false, .int .i64 0, .bool false, .bool false, .int .i64 0, .slice none 0 0], .int .i64 0, .bool false], []⟩ 8 (by kernel_rfl) (by kernel_rfl) (by kernel_rfl) (by kernel_rfl)) ?_
  intro W base args ds gs before hval0 hW hcnd hsz0 _
  have hval : ∀ (j : Nat) t v, Try.f7.params[j]? = some t → args[j]? = some v → Value.okWide Try.prog W .any base t v := hval0
  have hW' := hW
  obtain ⟨p, q, hA0, hV, rfl, hfz, hnd⟩ := hW
  have hA : DataW.TrodAll enc Try.prog W 0 (fun _ => true) true Try.f7.params.toList args.toList ds p := hA0
  rw [Try.params7] at hA hval
  obtain ⟨v0, vs0, d0, ds0, p0, q0, hargs, rfl, rfl, h0, r0⟩ := trodAll_cons hA
  obtain ⟨v1, vs1, d1, ds1, p1, q1, rfl, rfl, rfl, h1, r1⟩ := trodAll_cons r0
  obtain ⟨v2, vs2, d2, ds2, p2, q2, rfl, rfl, rfl, h2, r2⟩ := trodAll_cons r1
  obtain ⟨rfl, rfl, rfl⟩ := trodAll_nil r2
  obtain rfl : args = #[v0, v1, v2] := by cases args; simp_all
  obtain ⟨rfl, rfl⟩ := trodVars_none hV
  have k0 := h0
  have lt0 : ∀ x ∈ p0, x.block < W.heap.size := by obtain ⟨m, hm⟩ := k0; exact DataW.trod_lt m _ _ _ hm
  obtain ⟨cs0, rfl, ft0_0⟩ := Flat.open_flat (n := 8) (ls := [.bool, .bool, .bool, .bool, .bool, .bool, .bool, .int .i64, .bool, .bool, .int .i64, .slice]) (by kernel_rfl) (hval 0 26 v0 rfl rfl) (by kernel_rfl) h0
  obtain ⟨_, cs0_0, rfl, ⟨a0_0, rfl⟩, ft0_1⟩ := ft0_0.cons
  clear ft0_0
  obtain ⟨_, cs0_1, rfl, ⟨a0_1, rfl⟩, ft0_2⟩ := ft0_1.cons
  clear ft0_1
  obtain ⟨_, cs0_2, rfl, ⟨a0_2, rfl⟩, ft0_3⟩ := ft0_2.cons
  clear ft0_2
  obtain ⟨_, cs0_3, rfl, ⟨a0_3, rfl⟩, ft0_4⟩ := ft0_3.cons
  clear ft0_3
  obtain ⟨_, cs0_4, rfl, ⟨a0_4, rfl⟩, ft0_5⟩ := ft0_4.cons
  clear ft0_4
  obtain ⟨_, cs0_5, rfl, ⟨a0_5, rfl⟩, ft0_6⟩ := ft0_5.cons
  clear ft0_5
  obtain ⟨_, cs0_6, rfl, ⟨a0_6, rfl⟩, ft0_7⟩ := ft0_6.cons
  clear ft0_6
  obtain ⟨_, cs0_7, rfl, ⟨a0_7, rfl, w0_7⟩, ft0_8⟩ := ft0_7.cons
  clear ft0_7
  obtain ⟨_, cs0_8, rfl, ⟨a0_8, rfl⟩, ft0_9⟩ := ft0_8.cons
  clear ft0_8
  obtain ⟨_, cs0_9, rfl, ⟨a0_9, rfl⟩, ft0_10⟩ := ft0_9.cons
  clear ft0_9
  obtain ⟨_, cs0_10, rfl, ⟨a0_10, rfl, w0_10⟩, ft0_11⟩ := ft0_10.cons
  clear ft0_10
  obtain ⟨_, cs0_11, rfl, ⟨A0_11, len0_11, c0_11, rfl⟩, ft0_12⟩ := ft0_11.cons
  clear ft0_11
  obtain rfl := ft0_12.nil
  obtain ⟨d0_11, ps0_11, hT0_11⟩ := Flat.open_field 8 11 (st := 24) Try.underlying26 (by kernel_rfl) (by kernel_rfl) (by first | rfl | (simp; done)) (by first | rfl | kernel_rfl) h0
  have mk0_11 : ∀ cs, Flat.Fits [.bool, .int .i64, .int .i64, .int .i64, .int .i64] cs → ∃ x : S81, k81.K W x cs := by
    intro cs ft0
    obtain ⟨_, _, rfl, ⟨a0, rfl⟩, ft1⟩ := ft0.cons
    clear ft0
    obtain ⟨_, _, rfl, ⟨a1, rfl, w1⟩, ft2⟩ := ft1.cons
    clear ft1
    obtain ⟨_, _, rfl, ⟨a2, rfl, w2⟩, ft3⟩ := ft2.cons
    clear ft2
    obtain ⟨_, _, rfl, ⟨a3, rfl, w3⟩, ft4⟩ := ft3.cons
    clear ft3
    obtain ⟨_, _, rfl, ⟨a4, rfl, w4⟩, ft5⟩ := ft4.cons
    clear ft4
    obtain rfl := ft5.nil
    exact ⟨⟨a0, a1, a2, a3, a4⟩, k81_mk _ _⟩
  obtain ⟨hle0_11, _, l0_11, R0_11⟩ := Flat.open_rows (n := 8) (sz := 5) (ls := [.bool, .int .i64, .int .i64, .int .i64, .int .i64]) Try.underlying24 (by kernel_rfl) (by kernel_rfl) mk0_11 hT0_11
  obtain rfl : l0_11.length = len0_11 := R0_11.1
  have C0_11 : Kd.C k81 W A0_11 l0_11.length l0_11 := R0_11
  have k1 := h1
  have lt1 : ∀ x ∈ p1, x.block < W.heap.size := by obtain ⟨m, hm⟩ := k1; exact DataW.trod_lt m _ _ _ hm
  obtain ⟨a1, rfl, rfl, rfl, w1⟩ := open_int Try.underlying3 (hval 1 3 v1 rfl rfl) h1
  have k2 := h2
  have lt2 : ∀ x ∈ p2, x.block < W.heap.size := by obtain ⟨m, hm⟩ := k2; exact DataW.trod_lt m _ _ _ hm
  obtain ⟨a2, rfl, rfl, rfl⟩ := open_bool Try.underlying4 (hval 2 4 v2 rfl rfl) h2
  clear hA0 hval0 hsz0
  obtain ⟨k, hp⟩ := Pure.DemandGood a0_0 a0_1 a0_2 a0_3 a0_4 a0_5 a0_6 a0_7 a0_8 a0_9 a0_10 l0_11 a1 a2 w0_7 w0_10 w1
  refine (crossbucklaw19_DemandGood.calls k a0_0 a0_1 a0_2 a0_3 a0_4 a0_5 a0_6 a0_7 a0_8 a0_9 a0_10 A0_11 c0_11 l0_11 a1 a2 true W C0_11 hle0_11 hp).mono fun e W' ⟨he, bel⟩ => ?_
  subst he
  exact ⟨_, rfl, _, _, _, [], _, [], hW', trodAll_mk1 (shut_bool Try.underlying4 _), (trodAll_cons_mk (Below.trod laidOut (by kernel_rfl) (of_decide_eq_true (by kernel_rfl)) k0 bel lt0) (trodAll_cons_mk (Below.trod laidOut (by kernel_rfl) (of_decide_eq_true (by kernel_rfl)) k1 bel lt1) (trodAll_cons_mk (Below.trod laidOut (by kernel_rfl) (of_decide_eq_true (by kernel_rfl)) k2 bel lt2) trodAll_mk0))), rfl, bel.frame _, fun h => by cases h⟩
theorem over : Rows.demandGoodRow.holds Try.pinned (OpenSpec.ofChange Rows.demandGoodSpec) :=
  OpenClaim.holds_of_wide 7 Try.f7 rfl rfl rfl rfl rfl rfl rfl ⟨rfl, rfl, rfl, rfl, rfl⟩ rfl rfl rfl rfl rfl (by kernel_rfl) Try.func7 (by kernel_rfl)
    (of_decide_eq_true (by kernel_rfl)) (by unfold Func.isWrapper; first | (rw [if_pos (by decide +kernel)]; kernel_rfl) | (rw [if_neg (by decide +kernel)]; exact ⟨rfl, rfl⟩))
    (fun os started H enc _ => lifted os started H enc)
theorem proved : Rows.DemandGoodSaid := over
#print axioms proved
end Go.Proofs.Ytjjnfjhhimijmaa.demandGood
namespace Go.Proofs.Ytjjnfjhhimijmaa
/-- The row, under a short name, for the claim. -/
theorem demandGood_holds : Rows.DemandGoodSaid := demandGood.proved
end Go.Proofs.Ytjjnfjhhimijmaa
