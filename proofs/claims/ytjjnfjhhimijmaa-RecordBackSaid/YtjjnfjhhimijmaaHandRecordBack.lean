/- The law RecordBack, walked: at any record and any bytes it answers true. -/
import Derived.Test.YtjjnfjhhimijmaaAx2
import Derived.Test.YtjjnfjhhimijmaaHandSmall25
import Derived.Test.YtjjnfjhhimijmaaPureRecord
import Derived.Test.YtjjnfjhhimijmaaHas
import Derived.Outline
import Derived.Deep.RegionHeld3
import Derived.Deep.DrawnRows
import Derived.Deep.QuietTactic
import Derived.BigQuiet
import Derived.BigRegion
import Derived.Deep.RegionWith
namespace Go.Proofs.Ytjjnfjhhimijmaa.A
open Go.RowKit Go.Proofs.YtjjnfjhhimijmaaW.PrintWords Go.Proofs.YtjjnfjhhimijmaaW.PrintLast Go.Proofs.YtjjnfjhhimijmaaW.PrintMore
set_option linter.unusedVariables false
set_option linter.unusedSimpArgs false
attribute [local go_sem high] eqA46
theorem cell_alloc_ltb {w : World} {o : Obj} {b k : Nat} {e} (h : b < w.heap.size) : (w.alloc o).cell? ⟨b, k, e⟩ = w.cell? ⟨b, k, e⟩ := World.cell?_of_block (w := w) (Below.heap_alloc w o b h)
attribute [local go_sem] cell_alloc_ltb
theorem byte_of {x : Int} (h : (Lit.int .u8 x).wf = true) : 0 ≤ x ∧ x ≤ 255 := by
  have e0 : IntKind.u8.min = 0 := rfl
  have e1 : IntKind.u8.max = 255 := rfl
  simp [Lit.wf] at h
  omega
theorem three {l : List Int} (h : (l.length : Int) = 3) : l = [rd l 0, rd l 1, rd l 2] := by
  match l, h with
  | [a, b, c], _ => rfl
theorem back_of (l : List Int) (h : (l.length : Int) = 3) (h7 : ¬ rd l 0 > 7) (hb : ∀ x ∈ l, (Lit.int .u8 x).wf = true) : wrap64 (rd l 0) = rd l 0 ∧ wrap64 (rd l 1) = rd l 1 ∧ wrap64 (rd l 2) = rd l 2 ∧ Pure.printV (rd l 0) (rd l 1) (rd l 2) = l := by
  have e := three h
  have b0 := byte_of (hb (rd l 0) (by rw [e]; simp [rd]))
  have b1 := byte_of (hb (rd l 1) (by rw [e]; simp [rd]))
  have b2 := byte_of (hb (rd l 2) (by rw [e]; simp [rd]))
  refine ⟨by unfold wrap64; omega, by unfold wrap64; omega, by unfold wrap64; omega, ?_⟩
  unfold Pure.printV
  rw [if_pos (by omega)]
  exact e.symm
set_option maxHeartbeats 40000000 in
set_option maxRecDepth 100000 in
theorem RecordBack.walk (w : World) (a0_0 a0_1 a0_2 : Int) (A1 : Option Addr) (c1 : Nat) (l1 : List Int) (w00 : (Lit.int .i64 a0_0).wf = true) (w01 : (Lit.int .i64 a0_1).wf = true) (w02 : (Lit.int .i64 a0_2).wf = true) (ok1 : ∀ x ∈ l1, (Lit.int .u8 x).wf = true) (hc1 : l1.length ≤ c1) (hr1 : Kd.C (Kd.int .u8) w A1 l1.length l1) :
    Calls Try.prog 9 #[.agg #[.int .i64 a0_0, .int .i64 a0_1, .int .i64 a0_2], .slice A1 l1.length c1] w fun e w' => e = .returned (.bool true) ∧ Below w.heap.size w w' := by
  clear w00 w01 w02
  have HR1 := Aside0.mk hr1
  have HC1 := Aside0.mk hc1
  have OK1 := Aside0.mk ok1
  clear hr1 hc1 ok1
  have hu47 := Try.underlying47
  rcases Bool.eq_false_or_eq_true (decide ((l1.length : Int) > 100)) with g1 | g1
  · go_enter Try.func9, Try.ntmps9
    go_wp2_with fail
    refine (crossbucklaw25_small.calls true _ rfl).mono ?_
    rintro e w1 ⟨rfl, hb1⟩
    have H1 : Aside0 (Below w.heap.size w w1) := ⟨below_step (below_alloc (Below.refl _ _) _) hb1⟩
    clear hb1
    go_wp2_with fail
    go_ret
    exact ⟨rfl, H1.out⟩
  obtain ⟨k1, hk1⟩ := Ev.rounds (Pure.print_ev a0_0 a0_1 a0_2)
  have HK1 := Aside0.mk hk1
  clear hk1
  go_enter Try.func9, Try.ntmps9
  go_wp2_with fail
  refine (crossbucklaw25_small.calls true _ rfl).mono ?_
  rintro e w1 ⟨rfl, hb1⟩
  have H1 : Aside0 (Below w.heap.size w w1) := ⟨below_step (by repeat (with_reducible first | exact Below.refl _ _ | apply below_alloc)) hb1⟩
  have k1' : Quiet.Has w1 [(⟨w.heap.size, 0, none⟩, .int .i64 a0_0), (⟨w.heap.size, 1, none⟩, .int .i64 a0_1), (⟨w.heap.size, 2, none⟩, .int .i64 a0_2)] := Quiet.Has.bel (by simp only [Quiet.has_cons, Quiet.has_nil, and_true]; refine ⟨?_, ?_, ?_⟩ <;> go_simp) hb1
  have K1 := Aside0.mk k1'
  have s1 : w.heap.size < w1.heap.size := by have := hb1.size; simp at this; omega
  clear hb1
  simp only [Quiet.has_cons, Quiet.has_nil, and_true] at k1'
  obtain ⟨y0, y1, y2⟩ := k1'
  go_wp2_with fail
  clear y0 y1 y2
  refine (record_Print.calls k1 a0_0 a0_1 a0_2 (Pure.printV a0_0 a0_1 a0_2) _ HK1.out).mono ?_
  rintro e w2 ⟨v2, rfl, ho2, hb2⟩
  obtain ⟨A2, c2, rfl⟩ := Kd.R_slice ho2
  have C2 := Aside0.mk (Kd.R_reads' ho2)
  have H2 : Aside0 (Below w.heap.size w w2) := ⟨below_step H1.out hb2⟩
  have s2 : w.heap.size < w2.heap.size := by have := hb2.size; omega
  have K2 := Aside0.mk (K1.out.bel hb2)
  clear hb2 ho2 s1 K1 H1 HK1
  have k2' := K2.out
  simp only [Quiet.has_cons, Quiet.has_nil, and_true] at k2'
  obtain ⟨y0, y1, y2⟩ := k2'
  by_cases g : 0 ≤ a0_0 ∧ a0_0 ≤ 7 ∧ 0 ≤ a0_1 ∧ a0_1 ≤ 255 ∧ 0 ≤ a0_2 ∧ a0_2 ≤ 255
  · have eA : Pure.printV a0_0 a0_1 a0_2 = [a0_0, a0_1, a0_2] := by unfold Pure.printV; rw [if_pos g]
    have hpa : record_Parse.f [a0_0, a0_1, a0_2] = some (a0_0, a0_1, a0_2, true) := by
      rw [Pure.parse_eq, if_pos ⟨rfl, by show ¬ a0_0 > 7; omega⟩]
      show some (wrap64 a0_0, wrap64 a0_1, wrap64 a0_2, true) = _
      rw [show wrap64 a0_0 = a0_0 by unfold wrap64; omega, show wrap64 a0_1 = a0_1 by unfold wrap64; omega, show wrap64 a0_2 = a0_2 by unfold wrap64; omega]
    have HPA := Aside0.mk hpa
    rw [eA] at C2 ⊢
    clear hpa eA g
    go_wp2_with fail
    clear y0 y1 y2
    refine (record_Parse.calls A2 c2 [a0_0, a0_1, a0_2] a0_0 a0_1 a0_2 true _ C2.out.2.2 C2.out.2.1 HPA.out).mono ?_
    rintro e w3 ⟨rfl, hb3⟩
    have H3 : Aside0 (Below w.heap.size w w3) := ⟨below_step H2.out hb3⟩
    have s3 : w.heap.size < w3.heap.size := by have := hb3.size; omega
    have ne3 : ¬ (w.heap.size = w3.heap.size) := by omega
    have en3 : ¬ (w3.heap.size = w.heap.size) := by omega
    have k3' := K2.out.bel hb3
    simp only [Quiet.has_cons, Quiet.has_nil, and_true] at k3'
    obtain ⟨y0, y1, y2⟩ := k3'
    clear hb3 H2 K2 C2 s2
    go_wp2_with fail
    clear y0 y1 y2
    have H4 : Below w.heap.size w (w3.alloc (.cells #[.int .i64 a0_0, .int .i64 a0_1, .int .i64 a0_2] 46)) := below_alloc H3.out _
    by_cases q : (l1.length : Int) = 3 ∧ ¬ (rd l1 0 > 7)
    · obtain ⟨e0, e1, e2, ev⟩ := back_of l1 q.1 q.2 OK1.out
      have hp : record_Parse.f l1 = some (rd l1 0, rd l1 1, rd l1 2, true) := by rw [Pure.parse_eq, if_pos q, e0, e1, e2]
      obtain ⟨k3, hk3⟩ := Ev.rounds (Pure.print_ev (rd l1 0) (rd l1 1) (rd l1 2))
      rw [ev] at hk3
      generalize rd l1 0 = z0 at hp hk3
      generalize rd l1 1 = z1 at hp hk3
      generalize rd l1 2 = z2 at hp hk3
      have HP := Aside0.mk hp
      have HK3 := Aside0.mk hk3
      clear hp hk3 e0 e1 e2 ev q
      refine (record_Parse.calls A1 c1 l1 z0 z1 z2 true _ (Kd.C_below HR1.out H4) HC1.out HP.out).mono ?_
      rintro e w5 ⟨rfl, hb5⟩
      have H5 : Aside0 (Below w.heap.size w w5) := ⟨below_step H4 hb5⟩
      clear hb5
      go_wp2_with fail
      have HW : Aside0 (Below w.heap.size w (w5.alloc (.cells #[.int .i64 z0, .int .i64 z1, .int .i64 z2] 46)).drew) := ⟨below_drew1 (below_alloc H5.out _)⟩
      have S1 := Kd.C_string (c := c1) (src := 47) (dst := 9) (P := Try.prog) Try.underlying47 Try.underlying5 Try.underlying9 (Kd.C_below HR1.out HW.out)
      go_region_with (go_at_call 22; refine (record_Print.calls k3 z0 z1 z2 l1 _ HK3.out).mono ?_; rintro e w6 ⟨v6, rfl, ho6, hb6⟩; obtain ⟨A6, c6, rfl⟩ := Kd.R_slice ho6; have C6 := (Kd.R_reads' ho6).2.2; have S6 := Kd.C_string (c := c6) (src := 47) (dst := 9) (P := Try.prog) Try.underlying47 Try.underlying5 Try.underlying9 C6; have B6 : Aside0 (Below w.heap.size w w6) := ⟨below_step HW.out hb6⟩; have S7 := Kd.C_string (c := c1) (src := 47) (dst := 9) (P := Try.prog) Try.underlying47 Try.underlying5 Try.underlying9 (Kd.C_below HR1.out B6.out); clear ho6 hb6 C6)
      all_goals go_wp2
      all_goals go_ret
      all_goals exact ⟨by first | rfl | simp, B6.out⟩
    · have hp : record_Parse.f l1 = some (0, 0, 0, false) := by rw [Pure.parse_eq, if_neg q]
      have HP := Aside0.mk hp
      clear hp q
      refine (record_Parse.calls A1 c1 l1 0 0 0 false _ (Kd.C_below HR1.out H4) HC1.out HP.out).mono ?_
      rintro e w5 ⟨rfl, hb5⟩
      have H5 : Aside0 (Below w.heap.size w w5) := ⟨below_step H4 hb5⟩
      clear hb5
      go_wp2_with fail
      go_ret
      exact ⟨by first | rfl | simp, by repeat (with_reducible first | exact H5.out | apply below_alloc | refine Quiet.Bel.set ?_ (by have := H5.out.size; omega))⟩
  · have eA : Pure.printV a0_0 a0_1 a0_2 = [] := by unfold Pure.printV; rw [if_neg g]
    rw [eA] at C2 ⊢
    clear eA g
    go_wp2_with fail
    clear y0 y1 y2
    by_cases q : (l1.length : Int) = 3 ∧ ¬ (rd l1 0 > 7)
    · obtain ⟨e0, e1, e2, ev⟩ := back_of l1 q.1 q.2 OK1.out
      have hp : record_Parse.f l1 = some (rd l1 0, rd l1 1, rd l1 2, true) := by rw [Pure.parse_eq, if_pos q, e0, e1, e2]
      obtain ⟨k3, hk3⟩ := Ev.rounds (Pure.print_ev (rd l1 0) (rd l1 1) (rd l1 2))
      rw [ev] at hk3
      generalize rd l1 0 = z0 at hp hk3
      generalize rd l1 1 = z1 at hp hk3
      generalize rd l1 2 = z2 at hp hk3
      have HP := Aside0.mk hp
      have HK3 := Aside0.mk hk3
      clear hp hk3 e0 e1 e2 ev q
      refine (record_Parse.calls A1 c1 l1 z0 z1 z2 true _ (Kd.C_below HR1.out H2.out) HC1.out HP.out).mono ?_
      rintro e w5 ⟨rfl, hb5⟩
      have H5 : Aside0 (Below w.heap.size w w5) := ⟨below_step H2.out hb5⟩
      clear hb5
      go_wp2_with fail
      have HW : Aside0 (Below w.heap.size w (w5.alloc (.cells #[.int .i64 z0, .int .i64 z1, .int .i64 z2] 46)).drew) := ⟨below_drew1 (below_alloc H5.out _)⟩
      have S1 := Kd.C_string (c := c1) (src := 47) (dst := 9) (P := Try.prog) Try.underlying47 Try.underlying5 Try.underlying9 (Kd.C_below HR1.out HW.out)
      go_region_with (go_at_call 22; refine (record_Print.calls k3 z0 z1 z2 l1 _ HK3.out).mono ?_; rintro e w6 ⟨v6, rfl, ho6, hb6⟩; obtain ⟨A6, c6, rfl⟩ := Kd.R_slice ho6; have C6 := (Kd.R_reads' ho6).2.2; have S6 := Kd.C_string (c := c6) (src := 47) (dst := 9) (P := Try.prog) Try.underlying47 Try.underlying5 Try.underlying9 C6; have B6 : Aside0 (Below w.heap.size w w6) := ⟨below_step HW.out hb6⟩; have S7 := Kd.C_string (c := c1) (src := 47) (dst := 9) (P := Try.prog) Try.underlying47 Try.underlying5 Try.underlying9 (Kd.C_below HR1.out B6.out); clear ho6 hb6 C6)
      all_goals go_wp2
      all_goals go_ret
      all_goals exact ⟨by first | rfl | simp, B6.out⟩
    · have hp : record_Parse.f l1 = some (0, 0, 0, false) := by rw [Pure.parse_eq, if_neg q]
      have HP := Aside0.mk hp
      clear hp q
      refine (record_Parse.calls A1 c1 l1 0 0 0 false _ (Kd.C_below HR1.out H2.out) HC1.out HP.out).mono ?_
      rintro e w5 ⟨rfl, hb5⟩
      have H5 : Aside0 (Below w.heap.size w w5) := ⟨below_step H2.out hb5⟩
      clear hb5
      go_wp2_with fail
      go_ret
      exact ⟨by first | rfl | simp, by repeat (with_reducible first | exact H5.out | apply below_alloc | refine Quiet.Bel.set ?_ (by have := H5.out.size; omega))⟩
end Go.Proofs.Ytjjnfjhhimijmaa.A
