/- Whether nothing is wrong (demand.Good), and whether the road is to be closed (demand.Of). -/
import Derived.Test.YtjjnfjhhimijmaaHandGood1
namespace Go.Proofs.Ytjjnfjhhimijmaa.A
open Go.RowKit Go.Proofs.YtjjnfjhhimijmaaW.PrintWords Go.Proofs.YtjjnfjhhimijmaaW.PrintLast Go.Proofs.YtjjnfjhhimijmaaW.PrintMore
set_option linter.unusedVariables false
set_option linter.unusedSimpArgs false

theorem asksOf.calls (o : Bool) (q : Addr) (x : S39) (w : World) (hq : w.cell? q = some (.bool o)) :
    Calls Try.prog 28 #[.agg (cells39 x), .pointer (some q)] w fun e w' => e = .returned (.bool (x.f5 || (!x.f2 && !o))) ∧ Below w.heap.size w w' := by
  unfold cells39
  have hq2 : ∀ obj, (w.alloc obj).cell? q = some (.bool o) := fun obj => ((below_alloc (Below.refl w.heap.size w) obj).cell (World.block_lt_of_cell? w _ hq)).trans hq
  obtain ⟨f0, f1, f2, f3, f4, f5⟩ := x
  cases f5 <;> cases f2 <;> cases o
  all_goals
    go_enter Try.func28, Try.ntmps28
    go_wp2
    go_ret
    exact ⟨rfl, by repeat (with_reducible first | exact Below.refl _ _ | apply below_alloc)⟩

def demand_Good.f (k : Nat) (a0_0 : Bool) (a0_1 : Bool) (a0_2 : Bool) (a0_3 : Bool) (a0_4 : Bool) (a0_5 : Bool) (a0_6 : Bool) (a0_7 : Int) (a0_8 : Bool) (a0_9 : Bool) (a0_10 : Int) (l0_11 : List (S81)) (l1 : List (S39)) : Option (Bool) := (anyL (fun x => x.f4) k l1 0).bind fun t => some (!(decide (a0_7 = 1)) && (a0_8 && (a0_5 && !t)))
theorem demand_Good.mono : ∀ a0 a1 a2 a3 a4 a5 a6 a7 a8 a9 a10 a11 a12 k, LeO (demand_Good.f k a0 a1 a2 a3 a4 a5 a6 a7 a8 a9 a10 a11 a12) (demand_Good.f (k + 1) a0 a1 a2 a3 a4 a5 a6 a7 a8 a9 a10 a11 a12) := by
  intro a0 a1 a2 a3 a4 a5 a6 a7 a8 a9 a10 a11 a12 k
  exact LeO.bind (anyL_mono _ k _ _) (fun _ => LeO.refl _)
set_option maxHeartbeats 8000000 in
set_option maxRecDepth 100000 in
theorem demand_Good.core (k : Nat) (a0_0 : Bool) (a0_1 : Bool) (a0_2 : Bool) (a0_3 : Bool) (a0_4 : Bool) (a0_5 : Bool) (a0_6 : Bool) (a0_7 : Int) (a0_8 : Bool) (a0_9 : Bool) (a0_10 : Int) (tv : Value) (l0_11 : List (S81)) (A1 : Option Addr) (c1 : Nat) (l1 : List (S39)) (r : Bool) (w : World) (hr1 : Kd.C k39 w A1 l1.length l1) (hc1 : l1.length ≤ c1) (h : demand_Good.f k a0_0 a0_1 a0_2 a0_3 a0_4 a0_5 a0_6 a0_7 a0_8 a0_9 a0_10 l0_11 l1 = some r) :
    Calls Try.prog 13 #[.agg #[.bool a0_0, .bool a0_1, .bool a0_2, .bool a0_3, .bool a0_4, .bool a0_5, .bool a0_6, .int .i64 a0_7, .bool a0_8, .bool a0_9, .int .i64 a0_10, tv], .slice A1 l1.length c1] w fun e w' => e = .returned (.bool r) ∧ Below w.heap.size w w' := by
  obtain ⟨t, ht, hr⟩ := Option.bind_eq_some_iff.mp h
  obtain rfl := Option.some.inj hr
  have HR1 := Aside0.mk hr1
  have HC1 := Aside0.mk hc1
  have HF := Aside0.mk ht
  clear hr1 hc1 h ht hr
  rcases Bool.eq_false_or_eq_true (decide (a0_7 = 1)) with h1 | h1
  · have e1 : (a0_7 != 1) = false := by simp [bne, of_decide_eq_true h1]
    have e2 : (a0_7 == 1) = true := by simp [of_decide_eq_true h1]
    simp only [h1, Bool.not_true, Bool.false_and]
    go_enter Try.func13, Try.ntmps13
    go_wp2
    go_ret
    exact ⟨rfl, by repeat (with_reducible first | exact Below.refl _ _ | apply below_alloc)⟩
  · have e1 : (a0_7 != 1) = true := by simp [bne, of_decide_eq_false h1]
    have e2 : (a0_7 == 1) = false := by simp [of_decide_eq_false h1]
    simp only [h1, Bool.not_false, Bool.true_and]
    cases a0_8
    · simp only [Bool.false_and]
      go_enter Try.func13, Try.ntmps13
      go_wp2
      go_ret
      exact ⟨rfl, by repeat (with_reducible first | exact Below.refl _ _ | apply below_alloc)⟩
    · simp only [Bool.true_and]
      cases a0_5
      · simp only [Bool.false_and]
        go_enter Try.func13, Try.ntmps13
        go_wp2
        go_ret
        exact ⟨rfl, by repeat (with_reducible first | exact Below.refl _ _ | apply below_alloc)⟩
      · simp only [Bool.true_and]
        go_enter Try.func13, Try.ntmps13
        go_wp2_with fail
        refine (containsFunc.calls (fun x => x.f4) _ #[] k A1 c1 l1 t _ (Kd.C_alloc HR1.out _) HC1.out HF.out good_enter (fun x w1 _ => faultOf.calls x w1)).mono ?_
        rintro e w1 ⟨rfl, hb⟩
        have H1 : Aside0 (Below w.heap.size w w1) := ⟨below_step (below_alloc (Below.refl _ _) _) hb⟩
        clear hb
        go_wp2_with fail
        go_ret
        exact ⟨rfl, H1.out⟩


def demand_Of.f (k : Nat) (a0_0 : Bool) (a0_1 : Bool) (a0_2 : Bool) (a0_3 : Bool) (a0_4 : Bool) (a0_5 : Bool) (a0_6 : Bool) (a0_7 : Int) (a0_8 : Bool) (a0_9 : Bool) (a0_10 : Int) (l0_11 : List (S81)) (l1 : List (S39)) (a2 : Bool) (a3 : Bool) : Option (Bool × Bool) := (demand_Good.f k a0_0 a0_1 a0_2 a0_3 a0_4 a0_5 a0_6 a0_7 a0_8 a0_9 a0_10 l0_11 l1).bind fun t => (anyL (fun x => x.f5 || (!x.f2 && !a3)) k l1 0).bind fun u => some (!t || (a2 || (!(decide (a0_10 = 0)) || u)), !t)
theorem demand_Of.mono : ∀ a0 a1 a2 a3 a4 a5 a6 a7 a8 a9 a10 a11 a12 a13 a14 k, LeO (demand_Of.f k a0 a1 a2 a3 a4 a5 a6 a7 a8 a9 a10 a11 a12 a13 a14) (demand_Of.f (k + 1) a0 a1 a2 a3 a4 a5 a6 a7 a8 a9 a10 a11 a12 a13 a14) := by
  intro a0 a1 a2 a3 a4 a5 a6 a7 a8 a9 a10 a11 a12 a13 a14 k
  exact LeO.bind (demand_Good.mono _ _ _ _ _ _ _ _ _ _ _ _ _ k) (fun _ => LeO.bind (anyL_mono _ k _ _) (fun _ => LeO.refl _))
set_option maxHeartbeats 8000000 in
set_option maxRecDepth 100000 in
theorem demand_Of.core (k : Nat) (a0_0 : Bool) (a0_1 : Bool) (a0_2 : Bool) (a0_3 : Bool) (a0_4 : Bool) (a0_5 : Bool) (a0_6 : Bool) (a0_7 : Int) (a0_8 : Bool) (a0_9 : Bool) (a0_10 : Int) (tv : Value) (l0_11 : List (S81)) (A1 : Option Addr) (c1 : Nat) (l1 : List (S39)) (a2 : Bool) (a3 : Bool) (r1 : Bool) (r2 : Bool) (w : World) (hr1 : Kd.C k39 w A1 l1.length l1) (hc1 : l1.length ≤ c1) (h : demand_Of.f k a0_0 a0_1 a0_2 a0_3 a0_4 a0_5 a0_6 a0_7 a0_8 a0_9 a0_10 l0_11 l1 a2 a3 = some (r1, r2)) :
    Calls Try.prog 15 #[.agg #[.bool a0_0, .bool a0_1, .bool a0_2, .bool a0_3, .bool a0_4, .bool a0_5, .bool a0_6, .int .i64 a0_7, .bool a0_8, .bool a0_9, .int .i64 a0_10, tv], .slice A1 l1.length c1, .bool a2, .bool a3] w fun e w' => e = .returned (.agg #[.bool r1, .bool r2]) ∧ Below w.heap.size w w' := by
  obtain ⟨t, ht, h2⟩ := Option.bind_eq_some_iff.mp h
  obtain ⟨u, hu, hr⟩ := Option.bind_eq_some_iff.mp h2
  simp only [Option.some.injEq, Prod.mk.injEq] at hr
  obtain ⟨e1, e2⟩ := hr
  have HR1 := Aside0.mk hr1
  have HC1 := Aside0.mk hc1
  have HF := Aside0.mk ht
  have HU := Aside0.mk hu
  have E1 := Aside0.mk e1
  have E2 := Aside0.mk e2
  clear hr1 hc1 h h2 ht hu e1 e2
  go_enter Try.func15, Try.ntmps15
  go_wp2_with fail
  refine (demand_Good.core k a0_0 a0_1 a0_2 a0_3 a0_4 a0_5 a0_6 a0_7 a0_8 a0_9 a0_10 tv l0_11 A1 c1 l1 t _ (Kd.C_alloc (Kd.C_alloc (Kd.C_alloc HR1.out _) _) _) HC1.out HF.out).mono ?_
  rintro e w1 ⟨rfl, hb1⟩
  have H1 : Aside0 (Below w.heap.size w w1) := ⟨below_step (by repeat (with_reducible first | exact Below.refl _ _ | apply below_alloc)) hb1⟩
  have k1 : Quiet.Has w1 [(⟨w.heap.size, 10, none⟩, .int .i64 a0_10), (⟨w.heap.size + 1, 0, none⟩, .bool a3), (⟨w.heap.size + 1 + 1, 0, none⟩, .bool false), (⟨w.heap.size + 1 + 1, 1, none⟩, .bool false)] := Quiet.Has.bel (by simp only [Quiet.has_cons, Quiet.has_nil, and_true]; refine ⟨?_, ?_, ?_, ?_⟩ <;> go_simp) hb1
  have bk : (((w.alloc (.cells #[.bool a0_0, .bool a0_1, .bool a0_2, .bool a0_3, .bool a0_4, .bool a0_5, .bool a0_6, .int .i64 a0_7, .bool a0_8, .bool a0_9, .int .i64 a0_10, tv] 26)).alloc (.cells #[.bool a3] 4)).alloc (.cells #[.bool false, .bool false] 31)).heap[w.heap.size + 1 + 1]? = some (.cells #[.bool false, .bool false] 31 (0, 0)) := by
    have e := blk_new ((w.alloc (.cells #[.bool a0_0, .bool a0_1, .bool a0_2, .bool a0_3, .bool a0_4, .bool a0_5, .bool a0_6, .int .i64 a0_7, .bool a0_8, .bool a0_9, .int .i64 a0_10, tv] 26)).alloc (.cells #[.bool a3] 4)) (.cells #[.bool false, .bool false] 31 (0, 0))
    have e2 : ((w.alloc (.cells #[.bool a0_0, .bool a0_1, .bool a0_2, .bool a0_3, .bool a0_4, .bool a0_5, .bool a0_6, .int .i64 a0_7, .bool a0_8, .bool a0_9, .int .i64 a0_10, tv] 26)).alloc (.cells #[.bool a3] 4)).heap.size = w.heap.size + 1 + 1 := by go_simp
    rw [e2] at e
    exact e
  have BK1 := Aside0.mk (blk_below bk hb1)
  clear bk
  have t1 : Quiet.Thaw w1 [⟨w.heap.size + 1 + 1, 0, none⟩, ⟨w.heap.size + 1 + 1, 1, none⟩] := Quiet.Thaw.bel (by simp only [Quiet.thaw_cons, Quiet.thaw_nil, and_true]; refine ⟨?_, ?_⟩ <;> refine ⟨by simp, by go_simp⟩) hb1
  simp only [Quiet.has_cons, Quiet.has_nil, and_true] at k1
  simp only [Quiet.thaw_cons, Quiet.thaw_nil, and_true] at t1
  obtain ⟨u0, u1, u2, u3⟩ := k1
  obtain ⟨⟨v0, x0⟩, ⟨v1, x1⟩⟩ := t1
  clear hb1
  have FIN := Aside0.mk (fun (X1 X2 : Bool) (hx1 : X1 = r1) (hx2 : X2 = r2) => (by rw [hx1, hx2] : Ending.returned (Value.agg #[.bool X1, .bool X2]) = Ending.returned (Value.agg #[.bool r1, .bool r2])))
  rcases Bool.eq_false_or_eq_true t with rfl | rfl
  · rcases Bool.eq_false_or_eq_true a2 with rfl | rfl
    · go_wp2_with fail
      refine bodyPost_ret (results_cell_row rfl _ _ (w.heap.size + 1 + 1) 31 _ (0, 0) _ rfl (by refine blk_put (cs := #[.bool true, .bool false]) ?_ 1 _ rfl; refine blk_put (cs := #[.bool true, .bool false]) ?_ 0 _ rfl; refine blk_put (cs := #[.bool false, .bool false]) ?_ 0 _ rfl; exact blk_put (cs := #[.bool false, .bool false]) BK1.out 1 _ rfl) Try.underlying31 rfl (by kernel_rfl)) rfl ?_
      exact ⟨FIN.out _ _ (E1.out) E2.out, by repeat (with_reducible first | exact H1.out | refine Quiet.Bel.set ?_ (by omega))⟩
    · rcases Bool.eq_false_or_eq_true (decide (a0_10 = 0)) with g | g
      · obtain rfl := of_decide_eq_true g
        clear g
        go_wp2_with fail
        have hq : (w1.setCell ⟨w.heap.size + 1 + 1, 1, none⟩ (.bool false)).cell? ⟨w.heap.size + 1, 0, none⟩ = some (.bool a3) := by go_simp
        have HQ := Aside0.mk hq
        have hask : ∀ (x : S39) (w2 : World), Below (w1.setCell ⟨w.heap.size + 1 + 1, 1, none⟩ (.bool false)).heap.size (w1.setCell ⟨w.heap.size + 1 + 1, 1, none⟩ (.bool false)) w2 → Calls Try.prog 28 (#[.agg (cells39 x)] ++ #[.pointer (some ⟨w.heap.size + 1, 0, none⟩)]) w2 fun e w' => e = .returned (.bool (x.f5 || (!x.f2 && !a3))) ∧ Below w2.heap.size w2 w' := fun x w2 hb2 => asksOf.calls a3 ⟨w.heap.size + 1, 0, none⟩ x w2 (Quiet.Bel.cellA hb2 HQ.out)
        clear hq
        have hcs : Kd.C k39 (w1.setCell ⟨w.heap.size + 1 + 1, 1, none⟩ (.bool false)) A1 l1.length l1 := Kd.C_below HR1.out (Quiet.Bel.set H1.out (by omega))
        refine (containsFunc.calls (fun x => x.f5 || (!x.f2 && !a3)) 28 #[.pointer (some ⟨w.heap.size + 1, 0, none⟩)] k A1 c1 l1 u (w1.setCell ⟨w.heap.size + 1 + 1, 1, none⟩ (.bool false)) hcs HC1.out HU.out of_enter hask).mono ?_
        clear hask hcs
        rintro e w2 ⟨rfl, hb2⟩
        have H2 : Aside0 (Below w.heap.size w w2) := ⟨below_step (by repeat (with_reducible first | exact H1.out | refine Quiet.Bel.set ?_ (by omega))) hb2⟩
        have BK2 := Aside0.mk (blk_below (blk_put (cs := #[.bool false, .bool false]) BK1.out 1 (.bool false) rfl) hb2)
        have k2 : Quiet.Has w2 [(⟨w.heap.size + 1 + 1, 0, none⟩, .bool false), (⟨w.heap.size + 1 + 1, 1, none⟩, .bool false)] := Quiet.Has.bel (by simp only [Quiet.has_cons, Quiet.has_nil, and_true]; refine ⟨?_, ?_⟩ <;> go_simp) hb2
        have t2 : Quiet.Thaw w2 [⟨w.heap.size + 1 + 1, 0, none⟩, ⟨w.heap.size + 1 + 1, 1, none⟩] := Quiet.Thaw.bel (by simp only [Quiet.thaw_cons, Quiet.thaw_nil, and_true]; refine ⟨?_, ?_⟩ <;> refine ⟨by simp; omega, by go_simp⟩) hb2
        simp only [Quiet.has_cons, Quiet.has_nil, and_true] at k2
        simp only [Quiet.thaw_cons, Quiet.thaw_nil, and_true] at t2
        obtain ⟨y2, y3⟩ := k2
        obtain ⟨⟨z0, zx0⟩, ⟨z1, zx1⟩⟩ := t2
        clear hb2 u0 u1 u2 u3 v0 x0 v1 x1
        go_wp2_with fail
        refine bodyPost_ret (results_cell_row rfl _ _ (w.heap.size + 1 + 1) 31 _ (0, 0) _ rfl (by refine blk_put (cs := #[.bool u, .bool false]) ?_ 1 _ rfl; refine blk_put (cs := #[.bool u, .bool false]) ?_ 0 _ rfl; exact blk_put (cs := #[.bool false, .bool false]) BK2.out 0 _ rfl) Try.underlying31 rfl (by kernel_rfl)) rfl ?_
        exact ⟨FIN.out _ _ (by have := E1.out; simp at this; first | exact this.symm | exact this | simp [this]) E2.out, by repeat (with_reducible first | exact H2.out | refine Quiet.Bel.set ?_ (by omega))⟩
      · have g2 : (a0_10 != 0) = true := by simp [bne, of_decide_eq_false g]
        have g3 : (a0_10 == 0) = false := by simp [of_decide_eq_false g]
        go_wp2_with fail
        refine bodyPost_ret (results_cell_row rfl _ _ (w.heap.size + 1 + 1) 31 _ (0, 0) _ rfl (by refine blk_put (cs := #[.bool true, .bool false]) ?_ 1 _ rfl; refine blk_put (cs := #[.bool true, .bool false]) ?_ 0 _ rfl; refine blk_put (cs := #[.bool false, .bool false]) ?_ 0 _ rfl; exact blk_put (cs := #[.bool false, .bool false]) BK1.out 1 _ rfl) Try.underlying31 rfl (by kernel_rfl)) rfl ?_
        exact ⟨FIN.out _ _ (by have := E1.out; simp [g] at this; first | exact this.symm | exact this | simp [this, g, g2]) E2.out, by repeat (with_reducible first | exact H1.out | refine Quiet.Bel.set ?_ (by omega))⟩
  · go_wp2_with fail
    refine bodyPost_ret (results_cell_row rfl _ _ (w.heap.size + 1 + 1) 31 _ (0, 0) _ rfl (by refine blk_put (cs := #[.bool true, .bool true]) ?_ 1 _ rfl; refine blk_put (cs := #[.bool true, .bool true]) ?_ 0 _ rfl; refine blk_put (cs := #[.bool false, .bool true]) ?_ 0 _ rfl; exact blk_put (cs := #[.bool false, .bool false]) BK1.out 1 _ rfl) Try.underlying31 rfl (by kernel_rfl)) rfl ?_
    exact ⟨FIN.out _ _ (E1.out) E2.out, by repeat (with_reducible first | exact H1.out | refine Quiet.Bel.set ?_ (by omega))⟩

theorem demand_Good.calls (k : Nat) (a0_0 : Bool) (a0_1 : Bool) (a0_2 : Bool) (a0_3 : Bool) (a0_4 : Bool) (a0_5 : Bool) (a0_6 : Bool) (a0_7 : Int) (a0_8 : Bool) (a0_9 : Bool) (a0_10 : Int) (A0_11 : Option Addr) (c0_11 : Nat) (l0_11 : List (S81)) (A1 : Option Addr) (c1 : Nat) (l1 : List (S39)) (r : Bool) (w : World) (hr0_11 : Kd.C k81 w A0_11 l0_11.length l0_11) (hc0_11 : l0_11.length ≤ c0_11) (hr1 : Kd.C k39 w A1 l1.length l1) (hc1 : l1.length ≤ c1) (h : demand_Good.f k a0_0 a0_1 a0_2 a0_3 a0_4 a0_5 a0_6 a0_7 a0_8 a0_9 a0_10 l0_11 l1 = some r) :
    Calls Try.prog 13 #[.agg #[.bool a0_0, .bool a0_1, .bool a0_2, .bool a0_3, .bool a0_4, .bool a0_5, .bool a0_6, .int .i64 a0_7, .bool a0_8, .bool a0_9, .int .i64 a0_10, .slice A0_11 l0_11.length c0_11], .slice A1 l1.length c1] w fun e w' => e = .returned (.bool r) ∧ Below w.heap.size w w' :=
  demand_Good.core k a0_0 a0_1 a0_2 a0_3 a0_4 a0_5 a0_6 a0_7 a0_8 a0_9 a0_10 _ l0_11 A1 c1 l1 r w hr1 hc1 h
theorem demand_Of.calls (k : Nat) (a0_0 : Bool) (a0_1 : Bool) (a0_2 : Bool) (a0_3 : Bool) (a0_4 : Bool) (a0_5 : Bool) (a0_6 : Bool) (a0_7 : Int) (a0_8 : Bool) (a0_9 : Bool) (a0_10 : Int) (A0_11 : Option Addr) (c0_11 : Nat) (l0_11 : List (S81)) (A1 : Option Addr) (c1 : Nat) (l1 : List (S39)) (a2 : Bool) (a3 : Bool) (r1 : Bool) (r2 : Bool) (w : World) (hr0_11 : Kd.C k81 w A0_11 l0_11.length l0_11) (hc0_11 : l0_11.length ≤ c0_11) (hr1 : Kd.C k39 w A1 l1.length l1) (hc1 : l1.length ≤ c1) (h : demand_Of.f k a0_0 a0_1 a0_2 a0_3 a0_4 a0_5 a0_6 a0_7 a0_8 a0_9 a0_10 l0_11 l1 a2 a3 = some (r1, r2)) :
    Calls Try.prog 15 #[.agg #[.bool a0_0, .bool a0_1, .bool a0_2, .bool a0_3, .bool a0_4, .bool a0_5, .bool a0_6, .int .i64 a0_7, .bool a0_8, .bool a0_9, .int .i64 a0_10, .slice A0_11 l0_11.length c0_11], .slice A1 l1.length c1, .bool a2, .bool a3] w fun e w' => e = .returned (.agg #[.bool r1, .bool r2]) ∧ Below w.heap.size w w' :=
  demand_Of.core k a0_0 a0_1 a0_2 a0_3 a0_4 a0_5 a0_6 a0_7 a0_8 a0_9 a0_10 _ l0_11 A1 c1 l1 a2 a3 r1 r2 w hr1 hc1 h

end Go.Proofs.Ytjjnfjhhimijmaa.A
