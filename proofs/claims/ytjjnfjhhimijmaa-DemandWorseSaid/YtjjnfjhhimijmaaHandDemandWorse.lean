/- The law DemandWorse, walked: at any inputs it answers true. -/
import Derived.Test.YtjjnfjhhimijmaaHandSmall19
import Derived.Test.YtjjnfjhhimijmaaHas
import Derived.Test.YtjjnfjhhimijmaaPureAny
import Derived.Outline
import Derived.Deep.RegionHeld3
import Derived.Deep.DrawnRows
import Derived.Deep.QuietTactic
import Derived.BigQuiet
import Derived.BigRegion
import Derived.Deep.RegionWith
namespace Go.Proofs.Ytjjnfjhhimijmaa.A
open Go.RowKit Go.Proofs.YtjjnfjhhimijmaaW.PrintWords Go.Proofs.YtjjnfjhhimijmaaW.PrintLast Go.Proofs.YtjjnfjhhimijmaaW.PrintMore
set_option linter.unusedVariables false
set_option linter.unusedSimpArgs false
attribute [local go_sem] Quiet.bel_all
attribute [local go_sem ↓] Go.wp_at_zero Go.wp_at_succ
attribute [local go_sem high] eqA31
theorem cell_alloc_lt {w : World} {o : Obj} {b k : Nat} {e} (h : b < w.heap.size) : (w.alloc o).cell? ⟨b, k, e⟩ = w.cell? ⟨b, k, e⟩ := World.cell?_of_block (w := w) (Below.heap_alloc w o b h)
attribute [local go_sem] cell_alloc_lt
theorem worse_of (k : Nat) {a0 a1 a2 a3 a4 a5 a6 : Bool} {a7 : Int} {a8 a9 : Bool} {a10 : Int} {l : List S81} {l1 : List S39} {a b : Bool} {r : Bool × Bool} (h : demand_Of.f k a0 a1 a2 a3 a4 a5 a6 a7 a8 a9 a10 l l1 a b = some r) (hn : (!(decide (a7 = 1)) && (a8 && a5)) = false) : r = (true, true) := by
  simp only [demand_Of.f, demand_Good.f] at h
  obtain ⟨t, ht, h⟩ := Option.bind_eq_some_iff.mp h
  obtain ⟨u, hu, ht⟩ := Option.bind_eq_some_iff.mp ht
  obtain ⟨v, hv, h⟩ := Option.bind_eq_some_iff.mp h
  have e : t = false := by
    rw [← Option.some.inj ht]
    generalize decide (a7 = 1) = x at hn
    revert hn
    cases x <;> cases a8 <;> cases a5 <;> simp
  rw [← Option.some.inj h, e]
  simp
set_option maxHeartbeats 40000000 in
set_option maxRecDepth 100000 in
theorem DemandWorse.walk (w : World) (a0_0 : Bool) (a0_1 : Bool) (a0_2 : Bool) (a0_3 : Bool) (a0_4 : Bool) (a0_5 : Bool) (a0_6 : Bool) (a0_7 : Int) (a0_8 : Bool) (a0_9 : Bool) (a0_10 : Int) (A0_11 : Option Addr) (l0_11 c0_11 : Nat) (A1 : Option Addr) (c1 : Nat) (l1 : List S39) (a2 a3 : Bool) (w7 : (Lit.int .i64 a0_7).wf = true) (w10 : (Lit.int .i64 a0_10).wf = true) (ok1 : ∀ x ∈ l1, (Lit.int .i64 x.f0.f1).wf = true ∧ (Lit.int .i64 x.f0.f2).wf = true ∧ (Lit.int .i64 x.f1.f0).wf = true ∧ (Lit.int .i64 x.f1.f1).wf = true ∧ (Lit.int .i64 x.f3).wf = true) (hc1 : l1.length ≤ c1) (hr1 : Kd.C k39 w A1 l1.length l1) :
    Calls Try.prog 6 #[.agg #[.bool a0_0, .bool a0_1, .bool a0_2, .bool a0_3, .bool a0_4, .bool a0_5, .bool a0_6, .int .i64 a0_7, .bool a0_8, .bool a0_9, .int .i64 a0_10, .slice A0_11 l0_11 c0_11], .slice A1 l1.length c1, .bool a2, .bool a3] w fun e w' => e = .returned (.bool true) ∧ Below w.heap.size w w' := by
  clear w7 w10 ok1
  have HR1 := Aside0.mk hr1
  have HC1 := Aside0.mk hc1
  clear hr1 hc1
  rcases Bool.eq_false_or_eq_true (decide ((l1.length : Int) > 100)) with g1 | g1
  · go_enter Try.func6, Try.ntmps6
    go_wp2_with fail
    refine (crossbucklaw19_small.calls true _ rfl).mono ?_
    rintro e w1 ⟨rfl, hb1⟩
    have H1 : Aside0 (Below w.heap.size w w1) := ⟨below_step (below_alloc (Below.refl _ _) _) hb1⟩
    clear hb1
    go_wp2_with fail
    go_ret
    exact ⟨rfl, H1.out⟩
  · have hl : (l1.length : Int) ≤ 1000 := by have := of_decide_eq_false g1; omega
    obtain ⟨k0, hk0⟩ := Ev.rounds (Pure.of_ev a0_0 a0_1 a0_2 a0_3 a0_4 a0_5 a0_6 a0_7 false a0_9 a0_10 [] l1 a2 a3 hl)
    rw [worse_of k0 hk0 (by first | rfl | simp)] at hk0
    have HK0 := Aside0.mk hk0
    clear hk0
    obtain ⟨k1, hk1⟩ := Ev.rounds (Pure.of_ev a0_0 a0_1 a0_2 a0_3 a0_4 false a0_6 a0_7 a0_8 a0_9 a0_10 [] l1 a2 a3 hl)
    rw [worse_of k1 hk1 (by first | rfl | simp)] at hk1
    have HK1 := Aside0.mk hk1
    clear hk1
    obtain ⟨k2, hk2⟩ := Ev.rounds (Pure.of_ev a0_0 a0_1 a0_2 a0_3 a0_4 a0_5 a0_6 1 a0_8 a0_9 a0_10 [] l1 a2 a3 hl)
    rw [worse_of k2 hk2 (by first | rfl | simp)] at hk2
    have HK2 := Aside0.mk hk2
    clear hk2
    clear hl
    go_enter Try.func6, Try.ntmps6
    go_wp2_with fail
    refine (crossbucklaw19_small.calls true _ rfl).mono ?_
    rintro e w1 ⟨rfl, hb1⟩
    have H1 : Aside0 (Below w.heap.size w w1) := ⟨below_step (below_alloc (Below.refl _ _) _) hb1⟩
    have k1 : Quiet.Has w1 [(⟨w.heap.size, 0, none⟩, .bool a0_0), (⟨w.heap.size, 1, none⟩, .bool a0_1), (⟨w.heap.size, 2, none⟩, .bool a0_2), (⟨w.heap.size, 3, none⟩, .bool a0_3), (⟨w.heap.size, 4, none⟩, .bool a0_4), (⟨w.heap.size, 5, none⟩, .bool a0_5), (⟨w.heap.size, 6, none⟩, .bool a0_6), (⟨w.heap.size, 7, none⟩, .int .i64 a0_7), (⟨w.heap.size, 8, none⟩, .bool a0_8), (⟨w.heap.size, 9, none⟩, .bool a0_9), (⟨w.heap.size, 10, none⟩, .int .i64 a0_10), (⟨w.heap.size, 11, none⟩, .slice A0_11 l0_11 c0_11)] := Quiet.Has.bel (by simp only [Quiet.has_cons, Quiet.has_nil, and_true]; refine ⟨?_, ?_, ?_, ?_, ?_, ?_, ?_, ?_, ?_, ?_, ?_, ?_⟩ <;> go_simp) hb1
    simp only [Quiet.has_cons, Quiet.has_nil, and_true] at k1
    obtain ⟨u0, u1, u2, u3, u4, u5, u6, u7, u8, u9, u10, u11⟩ := k1
    have hlt : w.heap.size < w1.heap.size := by have := hb1.size; simp at this; omega
    have ne0 : ¬ (w.heap.size = w1.heap.size) := by omega
    have en0 : ¬ (w1.heap.size = w.heap.size) := by omega
    have lt0 : w.heap.size < w1.heap.size := by omega
    have ne1 : ¬ (w.heap.size = w1.heap.size + 1) := by omega
    have en1 : ¬ (w1.heap.size + 1 = w.heap.size) := by omega
    have lt1 : w.heap.size < w1.heap.size + 1 := by omega
    have ne2 : ¬ (w.heap.size = w1.heap.size + 1 + 1) := by omega
    have en2 : ¬ (w1.heap.size + 1 + 1 = w.heap.size) := by omega
    have lt2 : w.heap.size < w1.heap.size + 1 + 1 := by omega
    have ne3 : ¬ (w.heap.size = w1.heap.size + 1 + 1 + 1) := by omega
    have en3 : ¬ (w1.heap.size + 1 + 1 + 1 = w.heap.size) := by omega
    have lt3 : w.heap.size < w1.heap.size + 1 + 1 + 1 := by omega
    clear hb1 hlt
    go_wp2_with fail
    clear u0 u1 u2 u3 u4 u5 u6 u7 u8 u9 u10 u11
    refine Quiet.start (fun w' => Quiet.Has w' [(⟨w1.heap.size, 0, none⟩, .bool true), (⟨w1.heap.size, 1, none⟩, .bool true), (⟨w1.heap.size + 1, 0, none⟩, .bool a0_0), (⟨w1.heap.size + 1, 1, none⟩, .bool a0_1), (⟨w1.heap.size + 1, 2, none⟩, .bool a0_2), (⟨w1.heap.size + 1, 3, none⟩, .bool a0_3), (⟨w1.heap.size + 1, 4, none⟩, .bool a0_4), (⟨w1.heap.size + 1, 5, none⟩, .bool a0_5), (⟨w1.heap.size + 1, 6, none⟩, .bool a0_6), (⟨w1.heap.size + 1, 7, none⟩, .int .i64 a0_7), (⟨w1.heap.size + 1, 8, none⟩, .bool false), (⟨w1.heap.size + 1, 9, none⟩, .bool a0_9), (⟨w1.heap.size + 1, 10, none⟩, .int .i64 a0_10), (⟨w1.heap.size + 1, 11, none⟩, .slice A0_11 l0_11 c0_11), (⟨w1.heap.size + 1 + 1, 0, none⟩, .bool a0_0), (⟨w1.heap.size + 1 + 1, 1, none⟩, .bool a0_1), (⟨w1.heap.size + 1 + 1, 2, none⟩, .bool a0_2), (⟨w1.heap.size + 1 + 1, 3, none⟩, .bool a0_3), (⟨w1.heap.size + 1 + 1, 4, none⟩, .bool a0_4), (⟨w1.heap.size + 1 + 1, 5, none⟩, .bool false), (⟨w1.heap.size + 1 + 1, 6, none⟩, .bool a0_6), (⟨w1.heap.size + 1 + 1, 7, none⟩, .int .i64 a0_7), (⟨w1.heap.size + 1 + 1, 8, none⟩, .bool a0_8), (⟨w1.heap.size + 1 + 1, 9, none⟩, .bool a0_9), (⟨w1.heap.size + 1 + 1, 10, none⟩, .int .i64 a0_10), (⟨w1.heap.size + 1 + 1, 11, none⟩, .slice A0_11 l0_11 c0_11), (⟨w1.heap.size + 1 + 1 + 1, 0, none⟩, .bool a0_0), (⟨w1.heap.size + 1 + 1 + 1, 1, none⟩, .bool a0_1), (⟨w1.heap.size + 1 + 1 + 1, 2, none⟩, .bool a0_2), (⟨w1.heap.size + 1 + 1 + 1, 3, none⟩, .bool a0_3), (⟨w1.heap.size + 1 + 1 + 1, 4, none⟩, .bool a0_4), (⟨w1.heap.size + 1 + 1 + 1, 5, none⟩, .bool a0_5), (⟨w1.heap.size + 1 + 1 + 1, 6, none⟩, .bool a0_6), (⟨w1.heap.size + 1 + 1 + 1, 7, none⟩, .int .i64 1), (⟨w1.heap.size + 1 + 1 + 1, 8, none⟩, .bool a0_8), (⟨w1.heap.size + 1 + 1 + 1, 9, none⟩, .bool a0_9), (⟨w1.heap.size + 1 + 1 + 1, 10, none⟩, .int .i64 a0_10), (⟨w1.heap.size + 1 + 1 + 1, 11, none⟩, .slice A0_11 l0_11 c0_11)] ∧ Below w.heap.size w w') (by kernel_rfl) (by kernel_rfl) (fun w' h => ⟨Quiet.Has.bel ?hk h, below_step ?hb h⟩) (fun W1 hW1 hcell => ?_)
    case hk => simp only [Quiet.has_cons, Quiet.has_nil, and_true]; refine ⟨?_, ?_, ?_, ?_, ?_, ?_, ?_, ?_, ?_, ?_, ?_, ?_, ?_, ?_, ?_, ?_, ?_, ?_, ?_, ?_, ?_, ?_, ?_, ?_, ?_, ?_, ?_, ?_, ?_, ?_, ?_, ?_, ?_, ?_, ?_, ?_, ?_, ?_⟩ <;> go_simp
    case hb => repeat (with_reducible first | exact H1.out | apply below_alloc | refine Quiet.Bel.set ?_ (by have := H1.out.size; omega))
    repeat (first
      | go_big_quiet_skip
      | (go_big_quiet_want; go_big_quiet_op; go_big_quiet_on)
      | (refine Quiet.val _ _ (by rfl) (by (intro w' hC; have u := (hcell w' hC).1; simp only [Quiet.has_cons, Quiet.has_nil, and_true] at u; obtain ⟨u0, u1, u2, u3, u4, u5, u6, u7, u8, u9, u10, u11, u12, u13, u14, u15, u16, u17, u18, u19, u20, u21, u22, u23, u24, u25, u26, u27, u28, u29, u30, u31, u32, u33, u34, u35, u36, u37⟩ := u; go_simp; with_reducible rfl)) (by (simp only [Act.put, List.setIfInBounds_toArray, List.set_cons_zero, List.set_cons_succ]; rfl)) ?_)
      | (refine Quiet.call (args := #[.agg #[.bool a0_0, .bool a0_1, .bool a0_2, .bool a0_3, .bool a0_4, .bool a0_5, .bool a0_6, .int .i64 a0_7, .bool false, .bool a0_9, .int .i64 a0_10, .slice A0_11 l0_11 c0_11], .slice A1 l1.length c1, .bool a2, .bool a3]) _ _ (by rfl) (by rfl) Try.func15 (by kernel_rfl) rfl (by simp only [List.map_toArray, List.map_cons, List.map_nil]; rfl) (fun w' hC => demand_Of.core k0 a0_0 a0_1 a0_2 a0_3 a0_4 a0_5 a0_6 a0_7 false a0_9 a0_10 (.slice A0_11 l0_11 c0_11) [] A1 c1 l1 a2 a3 true true w' (Kd.C_below HR1.out (hcell w' hC).2) HC1.out HK0.out) (by (simp only [Act.put, List.setIfInBounds_toArray, List.set_cons_zero, List.set_cons_succ]; rfl)) ?_)
      | (refine Quiet.call (args := #[.agg #[.bool a0_0, .bool a0_1, .bool a0_2, .bool a0_3, .bool a0_4, .bool false, .bool a0_6, .int .i64 a0_7, .bool a0_8, .bool a0_9, .int .i64 a0_10, .slice A0_11 l0_11 c0_11], .slice A1 l1.length c1, .bool a2, .bool a3]) _ _ (by rfl) (by rfl) Try.func15 (by kernel_rfl) rfl (by simp only [List.map_toArray, List.map_cons, List.map_nil]; rfl) (fun w' hC => demand_Of.core k1 a0_0 a0_1 a0_2 a0_3 a0_4 false a0_6 a0_7 a0_8 a0_9 a0_10 (.slice A0_11 l0_11 c0_11) [] A1 c1 l1 a2 a3 true true w' (Kd.C_below HR1.out (hcell w' hC).2) HC1.out HK1.out) (by (simp only [Act.put, List.setIfInBounds_toArray, List.set_cons_zero, List.set_cons_succ]; rfl)) ?_)
      | (refine Quiet.call (args := #[.agg #[.bool a0_0, .bool a0_1, .bool a0_2, .bool a0_3, .bool a0_4, .bool a0_5, .bool a0_6, .int .i64 1, .bool a0_8, .bool a0_9, .int .i64 a0_10, .slice A0_11 l0_11 c0_11], .slice A1 l1.length c1, .bool a2, .bool a3]) _ _ (by rfl) (by rfl) Try.func15 (by kernel_rfl) rfl (by simp only [List.map_toArray, List.map_cons, List.map_nil]; rfl) (fun w' hC => demand_Of.core k2 a0_0 a0_1 a0_2 a0_3 a0_4 a0_5 a0_6 1 a0_8 a0_9 a0_10 (.slice A0_11 l0_11 c0_11) [] A1 c1 l1 a2 a3 true true w' (Kd.C_below HR1.out (hcell w' hC).2) HC1.out HK2.out) (by (simp only [Act.put, List.setIfInBounds_toArray, List.set_cons_zero, List.set_cons_succ]; rfl)) ?_))
    refine Quiet.done ?_
    intro w2 hbel
    have B2 := Aside0.mk ((hcell w2 hbel).2)
    clear hbel hcell hW1
    go_wp2
    go_ret
    exact ⟨rfl, B2.out⟩
end Go.Proofs.Ytjjnfjhhimijmaa.A
