/- The law DemandHolds, walked: at any inputs it answers true. -/
import Derived.Test.YtjjnfjhhimijmaaHandSmall19
import Derived.Test.YtjjnfjhhimijmaaHas
import Derived.Test.YtjjnfjhhimijmaaPureAny
import Derived.Outline
import Derived.Deep.RegionHeld3
import Derived.Deep.DrawnRows
import Derived.Deep.QuietTactic
import Derived.BigQuiet
import Derived.BigRegion
import Derived.Deep.RegionWith
namespace Go.Proofs.Ytjjnfjhhimijmaa.A
open Go.RowKit Go.Proofs.YtjjnfjhhimijmaaW.PrintWords Go.Proofs.YtjjnfjhhimijmaaW.PrintLast Go.Proofs.YtjjnfjhhimijmaaW.PrintMore
set_option linter.unusedVariables false
set_option linter.unusedSimpArgs false
attribute [local go_sem] Quiet.bel_all
attribute [local go_sem ↓] Go.wp_at_zero Go.wp_at_succ
attribute [local go_sem high] eqA31
theorem cell_alloc_lth {w : World} {o : Obj} {b k : Nat} {e} (h : b < w.heap.size) : (w.alloc o).cell? ⟨b, k, e⟩ = w.cell? ⟨b, k, e⟩ := World.cell?_of_block (w := w) (Below.heap_alloc w o b h)
attribute [local go_sem] cell_alloc_lth
theorem any_not (l : List S39) : (l.any fun x => x.f5 || (!x.f2 && !false)) = ((l.any fun x => x.f5) || !(l.all fun x => x.f2)) := by
  induction l with
  | nil => rfl
  | cons x l ih =>
    rw [List.any_cons, List.any_cons, List.all_cons, ih]
    cases x.f5 <;> cases x.f2 <;> cases (l.any fun x => x.f5) <;> cases (l.all fun x => x.f2) <;> rfl
theorem any_call (l : List S39) : (l.any fun x => x.f5 || (!x.f2 && !true)) = (l.any fun x => x.f5) := by
  congr 1
  funext x
  cases x.f5 <;> cases x.f2 <;> rfl
theorem take_more (l : List S39) (i : Int) (h0 : 0 ≤ i) (h1 : i < l.length) : l.take (i + 1).toNat = l.take i.toNat ++ [rd_T39 l i] := by
  have hi : i.toNat < l.length := by omega
  rw [show (i + 1).toNat = i.toNat + 1 by omega, List.take_succ_eq_append_getElem hi]
  congr 2
  unfold rd_T39
  rw [List.getD_eq_getElem?_getD, List.getElem?_eq_getElem hi]
  rfl
/-- What the loop knows of the tracks it has seen. -/
structure SeenH (l : List S39) (c d : Bool) (i : Int) : Prop where
  h0 : 0 ≤ i
  h1 : i ≤ l.length
  hc : c = ((l.take i.toNat).all fun x => x.f2)
  hd : d = ((l.take i.toNat).any fun x => x.f5)
theorem SeenH.more {l : List S39} {c d : Bool} {i : Int} (h : SeenH l c d i) (h1 : i < l.length) : SeenH l (c && (rd_T39 l i).f2) (d || (rd_T39 l i).f5) (i + 1) := by
  refine ⟨by have := h.h0; omega, by omega, ?_, ?_⟩
  · rw [take_more l i h.h0 h1, List.all_append, ← h.hc]; simp
  · rw [take_more l i h.h0 h1, List.any_append, ← h.hd]; simp
set_option maxHeartbeats 40000000 in
set_option maxRecDepth 100000 in
theorem DemandHolds.walk (w : World) (a0_0 : Bool) (a0_1 : Bool) (a0_2 : Bool) (a0_3 : Bool) (a0_4 : Bool) (a0_5 : Bool) (a0_6 : Bool) (a0_7 : Int) (a0_8 : Bool) (a0_9 : Bool) (a0_10 : Int) (A0_11 : Option Addr) (l0_11 c0_11 : Nat) (A1 : Option Addr) (c1 : Nat) (l1 : List S39) (a2 : Bool) (w7 : (Lit.int .i64 a0_7).wf = true) (w10 : (Lit.int .i64 a0_10).wf = true) (ok1 : ∀ x ∈ l1, (Lit.int .i64 x.f0.f1).wf = true ∧ (Lit.int .i64 x.f0.f2).wf = true ∧ (Lit.int .i64 x.f1.f0).wf = true ∧ (Lit.int .i64 x.f1.f1).wf = true ∧ (Lit.int .i64 x.f3).wf = true) (hc1 : l1.length ≤ c1) (hr1 : Kd.C k39 w A1 l1.length l1) :
    Calls Try.prog 4 #[.agg #[.bool a0_0, .bool a0_1, .bool a0_2, .bool a0_3, .bool a0_4, .bool a0_5, .bool a0_6, .int .i64 a0_7, .bool a0_8, .bool a0_9, .int .i64 a0_10, .slice A0_11 l0_11 c0_11], .slice A1 l1.length c1, .bool a2] w fun e w' => e = .returned (.bool true) ∧ Below w.heap.size w w' := by
  clear w7 w10 ok1
  have HR1 := Aside0.mk hr1
  have HC1 := Aside0.mk hc1
  clear hr1 hc1
  rcases Bool.eq_false_or_eq_true (decide ((l1.length : Int) > 100)) with g1 | g1
  · go_enter Try.func4, Try.ntmps4
    go_wp2_with fail
    refine (crossbucklaw19_small.calls true _ rfl).mono ?_
    rintro e w1 ⟨rfl, hb1⟩
    have H1 : Aside0 (Below w.heap.size w w1) := ⟨below_step (below_alloc (Below.refl _ _) _) hb1⟩
    clear hb1
    go_wp2_with fail
    go_ret
    exact ⟨rfl, H1.out⟩
  · have hl : (l1.length : Int) ≤ 1000 := by have := of_decide_eq_false g1; omega
    have HL := Aside0.mk hl
    obtain ⟨kc, hkc⟩ := Ev.rounds (Pure.of_ev a0_0 a0_1 a0_2 a0_3 a0_4 a0_5 a0_6 a0_7 a0_8 a0_9 a0_10 [] l1 a2 false hl)
    obtain ⟨ko, hko⟩ := Ev.rounds (Pure.of_ev a0_0 a0_1 a0_2 a0_3 a0_4 a0_5 a0_6 a0_7 a0_8 a0_9 a0_10 [] l1 a2 true hl)
    obtain ⟨kg, hkg⟩ := Ev.rounds (Pure.good_ev a0_0 a0_1 a0_2 a0_3 a0_4 a0_5 a0_6 a0_7 a0_8 a0_9 a0_10 [] l1 hl)
    unfold Pure.closeB at hkc hko
    rw [any_not] at hkc
    rw [any_call] at hko
    generalize hgg : Pure.goodB a0_5 a0_7 a0_8 l1 = g at hkc hko hkg
    clear hgg
    generalize hcc : (!g || (a2 || (!(decide (a0_10 = 0)) || ((l1.any fun x => x.f5) || !(l1.all fun x => x.f2))))) = C0 at hkc
    generalize hoo : (!g || (a2 || (!(decide (a0_10 = 0)) || (l1.any fun x => x.f5)))) = O0 at hko
    have HKC := Aside0.mk hkc
    have HKO := Aside0.mk hko
    have HKG := Aside0.mk hkg
    have ECC := Aside0.mk hcc
    have EOO := Aside0.mk hoo
    clear hkc hko hkg hcc hoo hl
    go_enter Try.func4, Try.ntmps4
    go_wp2_with fail
    refine (crossbucklaw19_small.calls true _ rfl).mono ?_
    rintro e w1 ⟨rfl, hb1⟩
    have H1 : Aside0 (Below w.heap.size w w1) := ⟨below_step (below_alloc (Below.refl _ _) _) hb1⟩
    have k1 : Quiet.Has w1 [(⟨w.heap.size, 0, none⟩, .bool a0_0), (⟨w.heap.size, 1, none⟩, .bool a0_1), (⟨w.heap.size, 2, none⟩, .bool a0_2), (⟨w.heap.size, 3, none⟩, .bool a0_3), (⟨w.heap.size, 4, none⟩, .bool a0_4), (⟨w.heap.size, 5, none⟩, .bool a0_5), (⟨w.heap.size, 6, none⟩, .bool a0_6), (⟨w.heap.size, 7, none⟩, .int .i64 a0_7), (⟨w.heap.size, 8, none⟩, .bool a0_8), (⟨w.heap.size, 9, none⟩, .bool a0_9), (⟨w.heap.size, 10, none⟩, .int .i64 a0_10), (⟨w.heap.size, 11, none⟩, .slice A0_11 l0_11 c0_11)] := Quiet.Has.bel (by simp only [Quiet.has_cons, Quiet.has_nil, and_true]; refine ⟨?_, ?_, ?_, ?_, ?_, ?_, ?_, ?_, ?_, ?_, ?_, ?_⟩ <;> go_simp) hb1
    have s1 : w.heap.size < w1.heap.size := by have := hb1.size; simp at this; omega
    clear hb1
    simp only [Quiet.has_cons, Quiet.has_nil, and_true] at k1
    obtain ⟨y0, y1, y2, y3, y4, y5, y6, y7, y8, y9, y10, y11⟩ := k1
    go_wp2_with fail
    refine (demand_Of.core kc a0_0 a0_1 a0_2 a0_3 a0_4 a0_5 a0_6 a0_7 a0_8 a0_9 a0_10 (.slice A0_11 l0_11 c0_11) [] A1 c1 l1 a2 false C0 (!g) _ (Kd.C_below HR1.out H1.out) HC1.out HKC.out).mono ?_
    rintro e w2 ⟨rfl, hb2⟩
    have H2 : Aside0 (Below w.heap.size w w2) := ⟨below_step H1.out hb2⟩
    have k2 : Quiet.Has w2 [(⟨w.heap.size, 0, none⟩, .bool a0_0), (⟨w.heap.size, 1, none⟩, .bool a0_1), (⟨w.heap.size, 2, none⟩, .bool a0_2), (⟨w.heap.size, 3, none⟩, .bool a0_3), (⟨w.heap.size, 4, none⟩, .bool a0_4), (⟨w.heap.size, 5, none⟩, .bool a0_5), (⟨w.heap.size, 6, none⟩, .bool a0_6), (⟨w.heap.size, 7, none⟩, .int .i64 a0_7), (⟨w.heap.size, 8, none⟩, .bool a0_8), (⟨w.heap.size, 9, none⟩, .bool a0_9), (⟨w.heap.size, 10, none⟩, .int .i64 a0_10), (⟨w.heap.size, 11, none⟩, .slice A0_11 l0_11 c0_11)] := Quiet.Has.bel (by simp only [Quiet.has_cons, Quiet.has_nil, and_true]; refine ⟨?_, ?_, ?_, ?_, ?_, ?_, ?_, ?_, ?_, ?_, ?_, ?_⟩ <;> go_simp) hb2
    have s2 : w.heap.size < w2.heap.size := by have := hb2.size; omega
    have neA : ¬ (w.heap.size = w2.heap.size) := by omega
    have enA : ¬ (w2.heap.size = w.heap.size) := by omega
    clear hb2 y0 y1 y2 y3 y4 y5 y6 y7 y8 y9 y10 y11
    simp only [Quiet.has_cons, Quiet.has_nil, and_true] at k2
    obtain ⟨y0, y1, y2, y3, y4, y5, y6, y7, y8, y9, y10, y11⟩ := k2
    go_wp2_with fail
    refine (demand_Of.core ko a0_0 a0_1 a0_2 a0_3 a0_4 a0_5 a0_6 a0_7 a0_8 a0_9 a0_10 (.slice A0_11 l0_11 c0_11) [] A1 c1 l1 a2 true O0 (!g) _ (Kd.C_below HR1.out (by repeat (with_reducible first | exact H2.out | apply below_alloc | refine Quiet.Bel.set ?_ (by have := H2.out.size; omega)))) HC1.out HKO.out).mono ?_
    rintro e w3 ⟨rfl, hb3⟩
    have H3 : Aside0 (Below w.heap.size w w3) := ⟨below_step (by repeat (with_reducible first | exact H2.out | apply below_alloc | refine Quiet.Bel.set ?_ (by have := H2.out.size; omega))) hb3⟩
    have k3 : Quiet.Has w3 [(⟨w.heap.size, 0, none⟩, .bool a0_0), (⟨w.heap.size, 1, none⟩, .bool a0_1), (⟨w.heap.size, 2, none⟩, .bool a0_2), (⟨w.heap.size, 3, none⟩, .bool a0_3), (⟨w.heap.size, 4, none⟩, .bool a0_4), (⟨w.heap.size, 5, none⟩, .bool a0_5), (⟨w.heap.size, 6, none⟩, .bool a0_6), (⟨w.heap.size, 7, none⟩, .int .i64 a0_7), (⟨w.heap.size, 8, none⟩, .bool a0_8), (⟨w.heap.size, 9, none⟩, .bool a0_9), (⟨w.heap.size, 10, none⟩, .int .i64 a0_10), (⟨w.heap.size, 11, none⟩, .slice A0_11 l0_11 c0_11), (⟨w2.heap.size, 0, none⟩, .bool C0), (⟨w2.heap.size, 1, none⟩, .bool (!g))] := Quiet.Has.bel (by simp only [Quiet.has_cons, Quiet.has_nil, and_true]; refine ⟨?_, ?_, ?_, ?_, ?_, ?_, ?_, ?_, ?_, ?_, ?_, ?_, ?_, ?_⟩ <;> go_simp) hb3
    have s3 : w2.heap.size < w3.heap.size := by have := hb3.size; simp at this; omega
    have s4 : w.heap.size < w3.heap.size := by omega
    have neB : ¬ (w.heap.size = w3.heap.size) := by omega
    have enB : ¬ (w3.heap.size = w.heap.size) := by omega
    have neC : ¬ (w2.heap.size = w3.heap.size) := by omega
    have enC : ¬ (w3.heap.size = w2.heap.size) := by omega
    clear hb3 y0 y1 y2 y3 y4 y5 y6 y7 y8 y9 y10 y11
    simp only [Quiet.has_cons, Quiet.has_nil, and_true] at k3
    obtain ⟨y0, y1, y2, y3, y4, y5, y6, y7, y8, y9, y10, y11, y12, y13⟩ := k3
    go_wp2_with fail
    go_loopg [10, 11, 12] (l1.length + 1) (fun kq v10 v11 v12 w' => ∃ (c d : Bool) (i : Int), v10 = .bool c ∧ v11 = .bool d ∧ v12 = .int .i64 i ∧ Aside0 (SeenH l1 c d i) ∧ Aside0 (i + kq = l1.length + 1) ∧ Aside0 (Quiet.Has w' [(⟨w.heap.size, 0, none⟩, .bool a0_0), (⟨w.heap.size, 1, none⟩, .bool a0_1), (⟨w.heap.size, 2, none⟩, .bool a0_2), (⟨w.heap.size, 3, none⟩, .bool a0_3), (⟨w.heap.size, 4, none⟩, .bool a0_4), (⟨w.heap.size, 5, none⟩, .bool a0_5), (⟨w.heap.size, 6, none⟩, .bool a0_6), (⟨w.heap.size, 7, none⟩, .int .i64 a0_7), (⟨w.heap.size, 8, none⟩, .bool a0_8), (⟨w.heap.size, 9, none⟩, .bool a0_9), (⟨w.heap.size, 10, none⟩, .int .i64 a0_10), (⟨w.heap.size, 11, none⟩, .slice A0_11 l0_11 c0_11), (⟨w2.heap.size, 0, none⟩, .bool C0), (⟨w2.heap.size, 1, none⟩, .bool (!g)), (⟨w3.heap.size, 0, none⟩, .bool O0), (⟨w3.heap.size, 1, none⟩, .bool (!g))]) ∧ Aside0 (Below w.heap.size w w'))
    case atStart =>
      refine ⟨true, false, 0, rfl, rfl, rfl, ⟨⟨by omega, by omega, rfl, rfl⟩⟩, ⟨by omega⟩, ⟨?_⟩, ⟨?_⟩⟩
      · simp only [Quiet.has_cons, Quiet.has_nil, and_true]; refine ⟨?_, ?_, ?_, ?_, ?_, ?_, ?_, ?_, ?_, ?_, ?_, ?_, ?_, ?_, ?_, ?_⟩ <;> go_simp
      · repeat (with_reducible first | exact H3.out | apply below_alloc | refine Quiet.Bel.set ?_ (by have := H3.out.size; omega))
    case round =>
      clear H1 H2 H3 y0 y1 y2 y3 y4 y5 y6 y7 y8 y9 y10 y11 y12 y13
      obtain ⟨c, d, i, rfl, rfl, rfl, SE, HI, K4, B4⟩ := hrel
      by_cases c2 : i < (l1.length : Int)
      · have c3 : 0 ≤ i := SE.out.h0
        have c2b : decide (i < (l1.length : Int)) = true := decide_eq_true c2
        have SM := Aside0.mk (SE.out.more c2)
        cases gk with
        | zero => exact absurd HI.out (by omega)
        | succ k1 =>
        have HI2 := Aside0.mk (show (i + 1) + (k1 : Int) = l1.length + 1 by have := HI.out; omega)
        have WX := Aside0.mk (show wrap64 (i + 1) = i + 1 by unfold wrap64; have := HL.out; omega)
        obtain ⟨ad, e, h0, h1, h2, h3, h4, h5, h6, h7, h8, h9, h10⟩ := at_T39 HR1.out i c3 c2
        cases e
        replace h7 := (B4.out.cell (World.block_lt_of_cell? w _ h7)).trans h7
        replace h10 := (B4.out.cell (World.block_lt_of_cell? w _ h10)).trans h10
        clear h0 h1 h2 h3 h4 h5 h6 h8 h9
        have p241 := eq_true c3
        have q241 := eq_true c2
        clear c2 c3
        cases c <;> cases d <;> simp only [Bool.true_and, Bool.false_and, Bool.true_or, Bool.false_or] at SM
        all_goals
          go_wp2_with fail
          go_roundg k1
          case measure => have := HI.out; omega
          case rel => rw [WX.out]; exact ⟨_, _, _, rfl, rfl, rfl, SM, ⟨by have := HI2.out; omega⟩, K4, B4⟩
      · have c2b : decide (i < (l1.length : Int)) = false := decide_eq_false c2
        have hi : i = l1.length := by have := SE.out.h1; omega
        have ec : c = (l1.all fun x => x.f2) := by have := SE.out.hc; rw [this, hi]; simp
        have ed : d = (l1.any fun x => x.f5) := by have := SE.out.hd; rw [this, hi]; simp
        have e1 := ECC.out
        have e2 := EOO.out
        rw [← ec, ← ed] at e1
        rw [← ed] at e2
        clear c2 hi ec ed SE HI HKC HKO ECC EOO HL
        have hz : (a0_10 != 0) = !(decide (a0_10 = 0)) := by by_cases h : a0_10 = 0 <;> simp [h]
        have hz2 : (a0_10 == 0) = decide (a0_10 = 0) := by by_cases h : a0_10 = 0 <;> simp [h]
        rcases Bool.eq_false_or_eq_true (decide (a0_10 = 0)) with hr | hr <;> rw [hr] at e1 e2 hz hz2 <;> cases g <;> cases c <;> cases d <;> cases a2 <;> simp only [Bool.not_true, Bool.not_false, Bool.true_or, Bool.false_or, Bool.or_true, Bool.or_false] at e1 e2 hz hz2
        all_goals
          subst e1
          subst e2
          have k4 := K4.out
          simp only [Bool.not_true, Bool.not_false, Quiet.has_cons, Quiet.has_nil, and_true] at k4
          obtain ⟨y0, y1, y2, y3, y4, y5, y6, y7, y8, y9, y10, y11, y12, y13, y14, y15⟩ := k4
          go_wp2_with fail
          clear y0 y1 y2 y3 y4 y5 y6 y7 y8 y9 y10 y11 y12 y13 y14 y15
          refine Quiet.start (fun w' => Quiet.Has w' _ ∧ Below w.heap.size w w') (by kernel_rfl) (by kernel_rfl) (fun w' h => ⟨Quiet.Has.bel K4.out h, below_step B4.out h⟩) (fun W1 hW1 hcell => ?_)
          repeat (first
            | go_big_quiet_skip
            | (go_big_quiet_want; go_big_quiet_op; go_big_quiet_on)
            | (refine Quiet.val _ _ (by rfl) (by (intro w' hC; have u := (hcell w' hC).1; simp only [Bool.not_true, Bool.not_false, Quiet.has_cons, Quiet.has_nil, and_true] at u; obtain ⟨u0, u1, u2, u3, u4, u5, u6, u7, u8, u9, u10, u11, u12, u13, u14, u15⟩ := u; go_simp; with_reducible rfl)) (by (simp only [Act.put, List.setIfInBounds_toArray, List.set_cons_zero, List.set_cons_succ]; rfl)) ?_)
            | (refine Quiet.call (args := #[.agg #[.bool a0_0, .bool a0_1, .bool a0_2, .bool a0_3, .bool a0_4, .bool a0_5, .bool a0_6, .int .i64 a0_7, .bool a0_8, .bool a0_9, .int .i64 a0_10, .slice A0_11 l0_11 c0_11], .slice A1 l1.length c1]) _ _ (by rfl) (by rfl) Try.func13 (by kernel_rfl) rfl (by simp only [List.map_toArray, List.map_cons, List.map_nil]; rfl) (fun w' hC => demand_Good.core kg a0_0 a0_1 a0_2 a0_3 a0_4 a0_5 a0_6 a0_7 a0_8 a0_9 a0_10 (.slice A0_11 l0_11 c0_11) [] A1 c1 l1 _ w' (Kd.C_below HR1.out (hcell w' hC).2) HC1.out HKG.out) (by (simp only [Act.put, List.setIfInBounds_toArray, List.set_cons_zero, List.set_cons_succ]; rfl)) ?_))
          refine Quiet.done ?_
          intro w5 hbel
          have B5 := Aside0.mk ((hcell w5 hbel).2)
          clear hbel hcell hW1
          go_wp2
          go_ret
          exact ⟨rfl, B5.out⟩
end Go.Proofs.Ytjjnfjhhimijmaa.A
