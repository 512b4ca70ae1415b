/- The law RecordApart, walked: at any two records it answers true. -/
import Derived.Test.YtjjnfjhhimijmaaAx2
import Derived.Lib.Bytes
import Derived.Test.YtjjnfjhhimijmaaHandSmall25
import Derived.Test.YtjjnfjhhimijmaaPureRecord
import Derived.Test.YtjjnfjhhimijmaaHas
import Derived.Outline
import Derived.Deep.RegionHeld3
import Derived.Deep.DrawnRows
import Derived.Deep.QuietTactic
import Derived.BigQuiet
import Derived.BigRegion
import Derived.Deep.RegionWith
namespace Go.Proofs.Ytjjnfjhhimijmaa.A
open Go.RowKit Go.Proofs.YtjjnfjhhimijmaaW.PrintWords Go.Proofs.YtjjnfjhhimijmaaW.PrintLast Go.Proofs.YtjjnfjhhimijmaaW.PrintMore
set_option linter.unusedVariables false
set_option linter.unusedSimpArgs false
attribute [local go_sem high] eqA46
attribute [local go_sem] Quiet.bel_all
attribute [local go_sem ↓] Go.wp_at_zero Go.wp_at_succ
theorem str3 (a b c : Int) (h : 0 ≤ a ∧ a ≤ 255 ∧ 0 ≤ b ∧ b ≤ 255 ∧ 0 ≤ c ∧ c ≤ 255) : (strOfNums [a, b, c]).toList = [UInt8.ofNat a.toNat, UInt8.ofNat b.toNat, UInt8.ofNat c.toNat] := by
  rw [Go.Lib.strOfNums_toList]
  rfl
theorem byte_inj (a b : Int) (ha : 0 ≤ a ∧ a ≤ 255) (hb : 0 ≤ b ∧ b ≤ 255) (h : UInt8.ofNat a.toNat = UInt8.ofNat b.toNat) : a = b := by
  have := congrArg UInt8.toNat h
  simp at this
  omega
theorem str_eq (a b c x y z : Int) (h : 0 ≤ a ∧ a ≤ 255 ∧ 0 ≤ b ∧ b ≤ 255 ∧ 0 ≤ c ∧ c ≤ 255) (g : 0 ≤ x ∧ x ≤ 255 ∧ 0 ≤ y ∧ y ≤ 255 ∧ 0 ≤ z ∧ z ≤ 255) : ((strOfNums [a, b, c]).toList == (strOfNums [x, y, z]).toList) = (a == x && (b == y && c == z)) := by
  rw [str3 a b c h, str3 x y z g]
  by_cases e : a = x ∧ b = y ∧ c = z
  · obtain ⟨rfl, rfl, rfl⟩ := e
    simp
  · have e1 : ¬ ([UInt8.ofNat a.toNat, UInt8.ofNat b.toNat, UInt8.ofNat c.toNat] = [UInt8.ofNat x.toNat, UInt8.ofNat y.toNat, UInt8.ofNat z.toNat]) := fun q => by
      simp only [List.cons.injEq, and_true] at q
      exact e ⟨byte_inj a x (by omega) (by omega) q.1, byte_inj b y (by omega) (by omega) q.2.1, byte_inj c z (by omega) (by omega) q.2.2⟩
    have e2 : (a == x && (b == y && c == z)) = false := by
      rw [Bool.eq_false_iff]
      intro q
      simp at q
      exact e q
    rw [e2]
    simpa using e1
set_option maxHeartbeats 40000000 in
set_option maxRecDepth 100000 in
theorem RecordApart.walk (w : World) (a0_0 a0_1 a0_2 a1_0 a1_1 a1_2 : Int) (w00 : (Lit.int .i64 a0_0).wf = true) (w01 : (Lit.int .i64 a0_1).wf = true) (w02 : (Lit.int .i64 a0_2).wf = true) (w10 : (Lit.int .i64 a1_0).wf = true) (w11 : (Lit.int .i64 a1_1).wf = true) (w12 : (Lit.int .i64 a1_2).wf = true) :
    Calls Try.prog 10 #[.agg #[.int .i64 a0_0, .int .i64 a0_1, .int .i64 a0_2], .agg #[.int .i64 a1_0, .int .i64 a1_1, .int .i64 a1_2]] w fun e w' => e = .returned (.bool true) ∧ Below w.heap.size w w' := by
  clear w00 w01 w02 w10 w11 w12
  obtain ⟨k1, hk1⟩ := Ev.rounds (Pure.print_ev a0_0 a0_1 a0_2)
  obtain ⟨k2, hk2⟩ := Ev.rounds (Pure.print_ev a1_0 a1_1 a1_2)
  have HK1 := Aside0.mk hk1
  have HK2 := Aside0.mk hk2
  clear hk1 hk2
  go_enter Try.func10, Try.ntmps10
  go_wp2_with fail
  refine (crossbucklaw25_small.calls true _ rfl).mono ?_
  rintro e w1 ⟨rfl, hb1⟩
  have H1 : Aside0 (Below w.heap.size w w1) := ⟨below_step (by repeat (with_reducible first | exact Below.refl _ _ | apply below_alloc)) hb1⟩
  have k1' : Quiet.Has w1 [(⟨w.heap.size, 0, none⟩, .int .i64 a0_0), (⟨w.heap.size, 1, none⟩, .int .i64 a0_1), (⟨w.heap.size, 2, none⟩, .int .i64 a0_2), (⟨w.heap.size + 1, 0, none⟩, .int .i64 a1_0), (⟨w.heap.size + 1, 1, none⟩, .int .i64 a1_1), (⟨w.heap.size + 1, 2, none⟩, .int .i64 a1_2)] := Quiet.Has.bel (by simp only [Quiet.has_cons, Quiet.has_nil, and_true]; refine ⟨?_, ?_, ?_, ?_, ?_, ?_⟩ <;> go_simp) hb1
  have K1 := Aside0.mk k1'
  clear hb1
  simp only [Quiet.has_cons, Quiet.has_nil, and_true] at k1'
  obtain ⟨y0, y1, y2, y3, y4, y5⟩ := k1'
  go_wp2_with fail
  clear y0 y1 y2 y3 y4 y5
  refine (record_Print.calls k1 a0_0 a0_1 a0_2 (Pure.printV a0_0 a0_1 a0_2) _ HK1.out).mono ?_
  rintro e w2 ⟨v2, rfl, ho2, hb2⟩
  obtain ⟨A2, c2, rfl⟩ := Kd.R_slice ho2
  have C2 := Aside0.mk (Kd.R_reads' ho2).2.2
  have H2 : Aside0 (Below w.heap.size w w2) := ⟨below_step H1.out hb2⟩
  have K2 := Aside0.mk (K1.out.bel hb2)
  clear hb2 ho2
  have q := K2.out
  simp only [Quiet.has_cons, Quiet.has_nil, and_true] at q
  obtain ⟨y0, y1, y2, y3, y4, y5⟩ := q
  go_wp2_with fail
  clear y0 y1 y2 y3 y4 y5
  refine (record_Print.calls k2 a1_0 a1_1 a1_2 (Pure.printV a1_0 a1_1 a1_2) _ HK2.out).mono ?_
  rintro e w3 ⟨v3, rfl, ho3, hb3⟩
  obtain ⟨A3, c3, rfl⟩ := Kd.R_slice ho3
  have C3 := Aside0.mk (Kd.R_reads' ho3).2.2
  have C2' := Aside0.mk (Kd.C_below C2.out hb3)
  have H3 : Aside0 (Below w.heap.size w w3) := ⟨below_step H2.out hb3⟩
  have K3 := Aside0.mk (K2.out.bel hb3)
  clear hb3 ho3 C2 K1 K2 H1 H2 HK1 HK2
  have q := K3.out
  simp only [Quiet.has_cons, Quiet.has_nil, and_true] at q
  obtain ⟨y0, y1, y2, y3, y4, y5⟩ := q
  skip
  skip
  have hcase : (0 ≤ a0_0 ∧ a0_0 ≤ 7 ∧ 0 ≤ a0_1 ∧ a0_1 ≤ 255 ∧ 0 ≤ a0_2 ∧ a0_2 ≤ 255) ∨ (a0_0 < 0) ∨ (0 ≤ a0_0 ∧ 7 < a0_0) ∨ (0 ≤ a0_0 ∧ a0_0 ≤ 7 ∧ a0_1 < 0) ∨ (0 ≤ a0_0 ∧ a0_0 ≤ 7 ∧ 0 ≤ a0_1 ∧ 255 < a0_1) ∨ (0 ≤ a0_0 ∧ a0_0 ≤ 7 ∧ 0 ≤ a0_1 ∧ a0_1 ≤ 255 ∧ a0_2 < 0) ∨ (0 ≤ a0_0 ∧ a0_0 ≤ 7 ∧ 0 ≤ a0_1 ∧ a0_1 ≤ 255 ∧ 0 ≤ a0_2 ∧ 255 < a0_2) := by omega
  have C2x := C2'.out
  have C3x := C3.out
  clear C2' C3
  rcases hcase with h | h
  · have eA : Pure.printV a0_0 a0_1 a0_2 = [a0_0, a0_1, a0_2] := by unfold Pure.printV; rw [if_pos (by omega)]
    simp only [eA, List.length_cons, List.length_nil, Nat.zero_add, Nat.reduceAdd] at C2x ⊢
    have d0 : decide (0 ≤ a0_0) = true := decide_eq_true (by omega)
    have d1 : decide (a0_0 ≤ 7) = true := decide_eq_true (by omega)
    have d2 : decide (0 ≤ a0_1) = true := decide_eq_true (by omega)
    have d3 : decide (a0_1 ≤ 255) = true := decide_eq_true (by omega)
    have d4 : decide (0 ≤ a0_2) = true := decide_eq_true (by omega)
    have d5 : decide (a0_2 ≤ 255) = true := decide_eq_true (by omega)
    by_cases g : 0 ≤ a1_0 ∧ a1_0 ≤ 7 ∧ 0 ≤ a1_1 ∧ a1_1 ≤ 255 ∧ 0 ≤ a1_2 ∧ a1_2 ≤ 255
    · have eB : Pure.printV a1_0 a1_1 a1_2 = [a1_0, a1_1, a1_2] := by unfold Pure.printV; rw [if_pos g]
      have hs := str_eq a0_0 a0_1 a0_2 a1_0 a1_1 a1_2 (by omega) (by omega)
      simp only [eB, List.length_cons, List.length_nil, Nat.zero_add, Nat.reduceAdd] at C3x ⊢
      clear h g eA eB
      go_wp2_with fail
      clear y0 y1 y2 y3 y4 y5
      have HC2 := Aside0.mk C2x
      have HC3 := Aside0.mk C3x
      clear C2x C3x
      refine Quiet.start (fun w' => Quiet.Has w' [(⟨w.heap.size, 0, none⟩, .int .i64 a0_0), (⟨w.heap.size, 1, none⟩, .int .i64 a0_1), (⟨w.heap.size, 2, none⟩, .int .i64 a0_2), (⟨w.heap.size + 1, 0, none⟩, .int .i64 a1_0), (⟨w.heap.size + 1, 1, none⟩, .int .i64 a1_1), (⟨w.heap.size + 1, 2, none⟩, .int .i64 a1_2)] ∧ (Kd.int .u8).C w' A2 _ _ ∧ (Kd.int .u8).C w' A3 _ _) (by kernel_rfl) (by kernel_rfl) (fun w' h => ⟨K3.out.bel h, Kd.C_below HC2.out h, Kd.C_below HC3.out h⟩) (fun W1 hW1 hcell => ?_)
      repeat (first | go_big_quiet_skip | (go_big_quiet_want; go_big_quiet_op; go_big_quiet_on) | (refine Quiet.val _ _ (by rfl) (by (intro w' hC; obtain ⟨u, s2, s3⟩ := hcell w' hC; simp only [Quiet.has_cons, Quiet.has_nil, and_true] at u; obtain ⟨y0, y1, y2, y3, y4, y5⟩ := u; have S2 := Kd.C_string (c := c2) (src := 47) (dst := 9) (P := Try.prog) Try.underlying47 Try.underlying5 Try.underlying9 s2; have S3 := Kd.C_string (c := c3) (src := 47) (dst := 9) (P := Try.prog) Try.underlying47 Try.underlying5 Try.underlying9 s3; clear s2 s3; go_simp; with_reducible rfl)) (by (simp only [Act.put, List.setIfInBounds_toArray, List.set_cons_zero, List.set_cons_succ]; rfl)) ?_))
      refine Quiet.done ?_
      intro w5 hbel
      have B5 := Aside0.mk (Quiet.Bel.out H3.out hW1 hbel)
      clear hbel hcell hW1
      go_wp2
      go_ret
      exact ⟨by simp [hs], B5.out⟩
    · have eB : Pure.printV a1_0 a1_1 a1_2 = [] := by unfold Pure.printV; rw [if_neg g]
      simp only [eB, List.length_cons, List.length_nil, Nat.zero_add, Nat.reduceAdd] at C3x ⊢
      clear h g eA eB
      go_wp2_with fail
      clear y0 y1 y2 y3 y4 y5
      have HC2 := Aside0.mk C2x
      have HC3 := Aside0.mk C3x
      clear C2x C3x
      refine Quiet.start (fun w' => Quiet.Has w' [(⟨w.heap.size, 0, none⟩, .int .i64 a0_0), (⟨w.heap.size, 1, none⟩, .int .i64 a0_1), (⟨w.heap.size, 2, none⟩, .int .i64 a0_2), (⟨w.heap.size + 1, 0, none⟩, .int .i64 a1_0), (⟨w.heap.size + 1, 1, none⟩, .int .i64 a1_1), (⟨w.heap.size + 1, 2, none⟩, .int .i64 a1_2)] ∧ (Kd.int .u8).C w' A2 _ _ ∧ (Kd.int .u8).C w' A3 _ _) (by kernel_rfl) (by kernel_rfl) (fun w' h => ⟨K3.out.bel h, Kd.C_below HC2.out h, Kd.C_below HC3.out h⟩) (fun W1 hW1 hcell => ?_)
      repeat (first | go_big_quiet_skip | (go_big_quiet_want; go_big_quiet_op; go_big_quiet_on) | (refine Quiet.val _ _ (by rfl) (by (intro w' hC; obtain ⟨u, s2, s3⟩ := hcell w' hC; simp only [Quiet.has_cons, Quiet.has_nil, and_true] at u; obtain ⟨y0, y1, y2, y3, y4, y5⟩ := u; have S2 := Kd.C_string (c := c2) (src := 47) (dst := 9) (P := Try.prog) Try.underlying47 Try.underlying5 Try.underlying9 s2; have S3 := Kd.C_string (c := c3) (src := 47) (dst := 9) (P := Try.prog) Try.underlying47 Try.underlying5 Try.underlying9 s3; clear s2 s3; go_simp; with_reducible rfl)) (by (simp only [Act.put, List.setIfInBounds_toArray, List.set_cons_zero, List.set_cons_succ]; rfl)) ?_))
      refine Quiet.done ?_
      intro w5 hbel
      have B5 := Aside0.mk (Quiet.Bel.out H3.out hW1 hbel)
      clear hbel hcell hW1
      go_wp2
      go_ret
      exact ⟨rfl, B5.out⟩
  · have eA : Pure.printV a0_0 a0_1 a0_2 = [] := by unfold Pure.printV; rw [if_neg (by omega)]
    simp only [eA, List.length_cons, List.length_nil, Nat.zero_add, Nat.reduceAdd] at C2x ⊢
    skip
    rcases h with h | h | h | h | h | h
    · have d0 : decide (0 ≤ a0_0) = false := decide_eq_false (by omega)
      clear h eA
      go_wp2_with fail
      clear y0 y1 y2 y3 y4 y5
      have HC2 := Aside0.mk C2x
      have HC3 := Aside0.mk C3x
      clear C2x C3x
      refine Quiet.start (fun w' => Quiet.Has w' [(⟨w.heap.size, 0, none⟩, .int .i64 a0_0), (⟨w.heap.size, 1, none⟩, .int .i64 a0_1), (⟨w.heap.size, 2, none⟩, .int .i64 a0_2), (⟨w.heap.size + 1, 0, none⟩, .int .i64 a1_0), (⟨w.heap.size + 1, 1, none⟩, .int .i64 a1_1), (⟨w.heap.size + 1, 2, none⟩, .int .i64 a1_2)] ∧ (Kd.int .u8).C w' A2 _ _ ∧ (Kd.int .u8).C w' A3 _ _) (by kernel_rfl) (by kernel_rfl) (fun w' h => ⟨K3.out.bel h, Kd.C_below HC2.out h, Kd.C_below HC3.out h⟩) (fun W1 hW1 hcell => ?_)
      repeat (first | go_big_quiet_skip | (go_big_quiet_want; go_big_quiet_op; go_big_quiet_on) | (refine Quiet.val _ _ (by rfl) (by (intro w' hC; obtain ⟨u, s2, s3⟩ := hcell w' hC; simp only [Quiet.has_cons, Quiet.has_nil, and_true] at u; obtain ⟨y0, y1, y2, y3, y4, y5⟩ := u; have S2 := Kd.C_string (c := c2) (src := 47) (dst := 9) (P := Try.prog) Try.underlying47 Try.underlying5 Try.underlying9 s2; have S3 := Kd.C_string (c := c3) (src := 47) (dst := 9) (P := Try.prog) Try.underlying47 Try.underlying5 Try.underlying9 s3; clear s2 s3; go_simp; with_reducible rfl)) (by (simp only [Act.put, List.setIfInBounds_toArray, List.set_cons_zero, List.set_cons_succ]; rfl)) ?_))
      refine Quiet.done ?_
      intro w5 hbel
      have B5 := Aside0.mk (Quiet.Bel.out H3.out hW1 hbel)
      clear hbel hcell hW1
      go_wp2
      go_ret
      exact ⟨rfl, B5.out⟩
    · have d0 : decide (0 ≤ a0_0) = true := decide_eq_true (by omega)
      have d1 : decide (a0_0 ≤ 7) = false := decide_eq_false (by omega)
      clear h eA
      go_wp2_with fail
      clear y0 y1 y2 y3 y4 y5
      have HC2 := Aside0.mk C2x
      have HC3 := Aside0.mk C3x
      clear C2x C3x
      refine Quiet.start (fun w' => Quiet.Has w' [(⟨w.heap.size, 0, none⟩, .int .i64 a0_0), (⟨w.heap.size, 1, none⟩, .int .i64 a0_1), (⟨w.heap.size, 2, none⟩, .int .i64 a0_2), (⟨w.heap.size + 1, 0, none⟩, .int .i64 a1_0), (⟨w.heap.size + 1, 1, none⟩, .int .i64 a1_1), (⟨w.heap.size + 1, 2, none⟩, .int .i64 a1_2)] ∧ (Kd.int .u8).C w' A2 _ _ ∧ (Kd.int .u8).C w' A3 _ _) (by kernel_rfl) (by kernel_rfl) (fun w' h => ⟨K3.out.bel h, Kd.C_below HC2.out h, Kd.C_below HC3.out h⟩) (fun W1 hW1 hcell => ?_)
      repeat (first | go_big_quiet_skip | (go_big_quiet_want; go_big_quiet_op; go_big_quiet_on) | (refine Quiet.val _ _ (by rfl) (by (intro w' hC; obtain ⟨u, s2, s3⟩ := hcell w' hC; simp only [Quiet.has_cons, Quiet.has_nil, and_true] at u; obtain ⟨y0, y1, y2, y3, y4, y5⟩ := u; have S2 := Kd.C_string (c := c2) (src := 47) (dst := 9) (P := Try.prog) Try.underlying47 Try.underlying5 Try.underlying9 s2; have S3 := Kd.C_string (c := c3) (src := 47) (dst := 9) (P := Try.prog) Try.underlying47 Try.underlying5 Try.underlying9 s3; clear s2 s3; go_simp; with_reducible rfl)) (by (simp only [Act.put, List.setIfInBounds_toArray, List.set_cons_zero, List.set_cons_succ]; rfl)) ?_))
      refine Quiet.done ?_
      intro w5 hbel
      have B5 := Aside0.mk (Quiet.Bel.out H3.out hW1 hbel)
      clear hbel hcell hW1
      go_wp2
      go_ret
      exact ⟨rfl, B5.out⟩
    · have d0 : decide (0 ≤ a0_0) = true := decide_eq_true (by omega)
      have d1 : decide (a0_0 ≤ 7) = true := decide_eq_true (by omega)
      have d2 : decide (0 ≤ a0_1) = false := decide_eq_false (by omega)
      clear h eA
      go_wp2_with fail
      clear y0 y1 y2 y3 y4 y5
      have HC2 := Aside0.mk C2x
      have HC3 := Aside0.mk C3x
      clear C2x C3x
      refine Quiet.start (fun w' => Quiet.Has w' [(⟨w.heap.size, 0, none⟩, .int .i64 a0_0), (⟨w.heap.size, 1, none⟩, .int .i64 a0_1), (⟨w.heap.size, 2, none⟩, .int .i64 a0_2), (⟨w.heap.size + 1, 0, none⟩, .int .i64 a1_0), (⟨w.heap.size + 1, 1, none⟩, .int .i64 a1_1), (⟨w.heap.size + 1, 2, none⟩, .int .i64 a1_2)] ∧ (Kd.int .u8).C w' A2 _ _ ∧ (Kd.int .u8).C w' A3 _ _) (by kernel_rfl) (by kernel_rfl) (fun w' h => ⟨K3.out.bel h, Kd.C_below HC2.out h, Kd.C_below HC3.out h⟩) (fun W1 hW1 hcell => ?_)
      repeat (first | go_big_quiet_skip | (go_big_quiet_want; go_big_quiet_op; go_big_quiet_on) | (refine Quiet.val _ _ (by rfl) (by (intro w' hC; obtain ⟨u, s2, s3⟩ := hcell w' hC; simp only [Quiet.has_cons, Quiet.has_nil, and_true] at u; obtain ⟨y0, y1, y2, y3, y4, y5⟩ := u; have S2 := Kd.C_string (c := c2) (src := 47) (dst := 9) (P := Try.prog) Try.underlying47 Try.underlying5 Try.underlying9 s2; have S3 := Kd.C_string (c := c3) (src := 47) (dst := 9) (P := Try.prog) Try.underlying47 Try.underlying5 Try.underlying9 s3; clear s2 s3; go_simp; with_reducible rfl)) (by (simp only [Act.put, List.setIfInBounds_toArray, List.set_cons_zero, List.set_cons_succ]; rfl)) ?_))
      refine Quiet.done ?_
      intro w5 hbel
      have B5 := Aside0.mk (Quiet.Bel.out H3.out hW1 hbel)
      clear hbel hcell hW1
      go_wp2
      go_ret
      exact ⟨rfl, B5.out⟩
    · have d0 : decide (0 ≤ a0_0) = true := decide_eq_true (by omega)
      have d1 : decide (a0_0 ≤ 7) = true := decide_eq_true (by omega)
      have d2 : decide (0 ≤ a0_1) = true := decide_eq_true (by omega)
      have d3 : decide (a0_1 ≤ 255) = false := decide_eq_false (by omega)
      clear h eA
      go_wp2_with fail
      clear y0 y1 y2 y3 y4 y5
      have HC2 := Aside0.mk C2x
      have HC3 := Aside0.mk C3x
      clear C2x C3x
      refine Quiet.start (fun w' => Quiet.Has w' [(⟨w.heap.size, 0, none⟩, .int .i64 a0_0), (⟨w.heap.size, 1, none⟩, .int .i64 a0_1), (⟨w.heap.size, 2, none⟩, .int .i64 a0_2), (⟨w.heap.size + 1, 0, none⟩, .int .i64 a1_0), (⟨w.heap.size + 1, 1, none⟩, .int .i64 a1_1), (⟨w.heap.size + 1, 2, none⟩, .int .i64 a1_2)] ∧ (Kd.int .u8).C w' A2 _ _ ∧ (Kd.int .u8).C w' A3 _ _) (by kernel_rfl) (by kernel_rfl) (fun w' h => ⟨K3.out.bel h, Kd.C_below HC2.out h, Kd.C_below HC3.out h⟩) (fun W1 hW1 hcell => ?_)
      repeat (first | go_big_quiet_skip | (go_big_quiet_want; go_big_quiet_op; go_big_quiet_on) | (refine Quiet.val _ _ (by rfl) (by (intro w' hC; obtain ⟨u, s2, s3⟩ := hcell w' hC; simp only [Quiet.has_cons, Quiet.has_nil, and_true] at u; obtain ⟨y0, y1, y2, y3, y4, y5⟩ := u; have S2 := Kd.C_string (c := c2) (src := 47) (dst := 9) (P := Try.prog) Try.underlying47 Try.underlying5 Try.underlying9 s2; have S3 := Kd.C_string (c := c3) (src := 47) (dst := 9) (P := Try.prog) Try.underlying47 Try.underlying5 Try.underlying9 s3; clear s2 s3; go_simp; with_reducible rfl)) (by (simp only [Act.put, List.setIfInBounds_toArray, List.set_cons_zero, List.set_cons_succ]; rfl)) ?_))
      refine Quiet.done ?_
      intro w5 hbel
      have B5 := Aside0.mk (Quiet.Bel.out H3.out hW1 hbel)
      clear hbel hcell hW1
      go_wp2
      go_ret
      exact ⟨rfl, B5.out⟩
    · have d0 : decide (0 ≤ a0_0) = true := decide_eq_true (by omega)
      have d1 : decide (a0_0 ≤ 7) = true := decide_eq_true (by omega)
      have d2 : decide (0 ≤ a0_1) = true := decide_eq_true (by omega)
      have d3 : decide (a0_1 ≤ 255) = true := decide_eq_true (by omega)
      have d4 : decide (0 ≤ a0_2) = false := decide_eq_false (by omega)
      clear h eA
      go_wp2_with fail
      clear y0 y1 y2 y3 y4 y5
      have HC2 := Aside0.mk C2x
      have HC3 := Aside0.mk C3x
      clear C2x C3x
      refine Quiet.start (fun w' => Quiet.Has w' [(⟨w.heap.size, 0, none⟩, .int .i64 a0_0), (⟨w.heap.size, 1, none⟩, .int .i64 a0_1), (⟨w.heap.size, 2, none⟩, .int .i64 a0_2), (⟨w.heap.size + 1, 0, none⟩, .int .i64 a1_0), (⟨w.heap.size + 1, 1, none⟩, .int .i64 a1_1), (⟨w.heap.size + 1, 2, none⟩, .int .i64 a1_2)] ∧ (Kd.int .u8).C w' A2 _ _ ∧ (Kd.int .u8).C w' A3 _ _) (by kernel_rfl) (by kernel_rfl) (fun w' h => ⟨K3.out.bel h, Kd.C_below HC2.out h, Kd.C_below HC3.out h⟩) (fun W1 hW1 hcell => ?_)
      repeat (first | go_big_quiet_skip | (go_big_quiet_want; go_big_quiet_op; go_big_quiet_on) | (refine Quiet.val _ _ (by rfl) (by (intro w' hC; obtain ⟨u, s2, s3⟩ := hcell w' hC; simp only [Quiet.has_cons, Quiet.has_nil, and_true] at u; obtain ⟨y0, y1, y2, y3, y4, y5⟩ := u; have S2 := Kd.C_string (c := c2) (src := 47) (dst := 9) (P := Try.prog) Try.underlying47 Try.underlying5 Try.underlying9 s2; have S3 := Kd.C_string (c := c3) (src := 47) (dst := 9) (P := Try.prog) Try.underlying47 Try.underlying5 Try.underlying9 s3; clear s2 s3; go_simp; with_reducible rfl)) (by (simp only [Act.put, List.setIfInBounds_toArray, List.set_cons_zero, List.set_cons_succ]; rfl)) ?_))
      refine Quiet.done ?_
      intro w5 hbel
      have B5 := Aside0.mk (Quiet.Bel.out H3.out hW1 hbel)
      clear hbel hcell hW1
      go_wp2
      go_ret
      exact ⟨rfl, B5.out⟩
    · have d0 : decide (0 ≤ a0_0) = true := decide_eq_true (by omega)
      have d1 : decide (a0_0 ≤ 7) = true := decide_eq_true (by omega)
      have d2 : decide (0 ≤ a0_1) = true := decide_eq_true (by omega)
      have d3 : decide (a0_1 ≤ 255) = true := decide_eq_true (by omega)
      have d4 : decide (0 ≤ a0_2) = true := decide_eq_true (by omega)
      have d5 : decide (a0_2 ≤ 255) = false := decide_eq_false (by omega)
      clear h eA
      go_wp2_with fail
      clear y0 y1 y2 y3 y4 y5
      have HC2 := Aside0.mk C2x
      have HC3 := Aside0.mk C3x
      clear C2x C3x
      refine Quiet.start (fun w' => Quiet.Has w' [(⟨w.heap.size, 0, none⟩, .int .i64 a0_0), (⟨w.heap.size, 1, none⟩, .int .i64 a0_1), (⟨w.heap.size, 2, none⟩, .int .i64 a0_2), (⟨w.heap.size + 1, 0, none⟩, .int .i64 a1_0), (⟨w.heap.size + 1, 1, none⟩, .int .i64 a1_1), (⟨w.heap.size + 1, 2, none⟩, .int .i64 a1_2)] ∧ (Kd.int .u8).C w' A2 _ _ ∧ (Kd.int .u8).C w' A3 _ _) (by kernel_rfl) (by kernel_rfl) (fun w' h => ⟨K3.out.bel h, Kd.C_below HC2.out h, Kd.C_below HC3.out h⟩) (fun W1 hW1 hcell => ?_)
      repeat (first | go_big_quiet_skip | (go_big_quiet_want; go_big_quiet_op; go_big_quiet_on) | (refine Quiet.val _ _ (by rfl) (by (intro w' hC; obtain ⟨u, s2, s3⟩ := hcell w' hC; simp only [Quiet.has_cons, Quiet.has_nil, and_true] at u; obtain ⟨y0, y1, y2, y3, y4, y5⟩ := u; have S2 := Kd.C_string (c := c2) (src := 47) (dst := 9) (P := Try.prog) Try.underlying47 Try.underlying5 Try.underlying9 s2; have S3 := Kd.C_string (c := c3) (src := 47) (dst := 9) (P := Try.prog) Try.underlying47 Try.underlying5 Try.underlying9 s3; clear s2 s3; go_simp; with_reducible rfl)) (by (simp only [Act.put, List.setIfInBounds_toArray, List.set_cons_zero, List.set_cons_succ]; rfl)) ?_))
      refine Quiet.done ?_
      intro w5 hbel
      have B5 := Aside0.mk (Quiet.Bel.out H3.out hW1 hbel)
      clear hbel hcell hW1
      go_wp2
      go_ret
      exact ⟨rfl, B5.out⟩
end Go.Proofs.Ytjjnfjhhimijmaa.A
