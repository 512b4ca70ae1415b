/- What survives of a road and of tracks: record.mask over a function, and record.Of. -/
import Derived.Test.YtjjnfjhhimijmaaAx0
import Derived.Test.YtjjnfjhhimijmaaHas
import Derived.Test.YtjjnfjhhimijmaaHandGood1
import Derived.Outline
import Derived.Deep.RegionHeld3
import Derived.Deep.DrawnRows
import Derived.Deep.QuietTactic
import Derived.BigQuiet
import Derived.BigRegion
import Derived.Deep.RegionWith
namespace Go.Proofs.Ytjjnfjhhimijmaa.A
open Go.RowKit Go.Proofs.YtjjnfjhhimijmaaW.PrintWords Go.Proofs.YtjjnfjhhimijmaaW.PrintLast Go.Proofs.YtjjnfjhhimijmaaW.PrintMore
attribute [local go_sem] max2_int min2_int max_two min_two
set_option linter.unusedVariables false
set_option linter.unusedSimpArgs false
attribute [local go_sem] Quiet.bel_all
attribute [local go_sem ↓] Go.wp_at_zero Go.wp_at_succ

theorem wrongOf.calls (x : S39) (w : World) :
    Calls Try.prog 30 #[.agg (cells39 x)] w fun e w' => e = .returned (.bool x.f0.f3) ∧ Below w.heap.size w w' := by
  unfold cells39
  go_enter Try.func30, Try.ntmps30
  go_wp2
  go_ret
  exact ⟨rfl, by repeat (with_reducible first | exact Below.refl _ _ | apply below_alloc)⟩
theorem jumpOf.calls (x : S39) (w : World) :
    Calls Try.prog 31 #[.agg (cells39 x)] w fun e w' => e = .returned (.bool x.f1.f2) ∧ Below w.heap.size w w' := by
  unfold cells39
  go_enter Try.func31, Try.ntmps31
  go_wp2
  go_ret
  exact ⟨rfl, by repeat (with_reducible first | exact Below.refl _ _ | apply below_alloc)⟩
theorem wrong_enter (args : Array Value) (w1 : World) : (callFunc 30 args).run Try.prog w1 = .ok (.enter 30 args) w1 := by
  go_simp
theorem jump_enter (args : Array Value) (w1 : World) : (callFunc 31 args).run Try.prog w1 = .ok (.enter 31 args) w1 := by
  go_simp

def maskL (g : S39 → Bool) (l : List S39) (m : Int) : Nat → Int → Int → Int
  | 0, _, n => n
  | j + 1, x, n => if x < m then maskL g l m j (x + 1) (if g (rd_T39 l x) = true then Go.bits .or .i64 n (wrap64 (2 ^ min x.toNat 64)) else n) else n
def maskV (g : S39 → Bool) (l : List S39) : Int := maskL g l (mn (l.length : Int) 8) 9 0 0

set_option maxHeartbeats 8000000 in
set_option maxRecDepth 100000 in
theorem mask.calls (g : S39 → Bool) (fn : Nat) (A0 : Option Addr) (c0 : Nat) (l0 : List S39) (w : World) (hr0 : Kd.C k39 w A0 l0.length l0) (hc0 : l0.length ≤ c0)
    (he : ∀ args w1, (callFunc fn args).run Try.prog w1 = .ok (.enter fn args) w1)
    (hg : ∀ (x : S39) (w1 : World), Calls Try.prog fn #[.agg (cells39 x)] w1 fun e w' => e = .returned (.bool (g x)) ∧ Below w1.heap.size w1 w') :
    Calls Try.prog 29 #[.slice A0 l0.length c0, .func (.func fn) #[] #[]] w fun e w' => e = .returned (.int .i64 (maskV g l0)) ∧ Below w.heap.size w w' := by
  have hu39 := Try.underlying39
  have HR0 := Aside0.mk hr0
  have HC0 := Aside0.mk hc0
  have HG := Aside0.mk hg
  have HE0 := Aside0.mk he
  clear hr0 hg he
  obtain ⟨m, hm, hml, hm8⟩ : ∃ m : Nat, mn (l0.length : Int) 8 = m ∧ m ≤ l0.length ∧ m ≤ 8 := by
    refine ⟨if l0.length ≤ 8 then l0.length else 8, ?_, ?_, ?_⟩ <;> split <;> (try unfold mn) <;> (try split) <;> omega
  have HV := Aside0.mk (show maskL g l0 m 9 0 0 = maskV g l0 by unfold maskV; rw [hm])
  have HM := Aside0.mk (And.intro hml hm8)
  have hmi : (if (8 : Int) < (l0.length : Int) then (8 : Int) else (l0.length : Int)) = (m : Int) := by rw [← hm]; rfl
  have hmc : m ≤ c0 := Nat.le_trans hml hc0
  have HB := Aside0.mk (Below.refl w.heap.size w)
  clear hml hm8 hm
  go_enter Try.func29, Try.ntmps29
  go_wp2
  go_loopg [4, 5, 6, 13] 9 (fun kq v4 v5 v6 v13 w' => ∃ (n x : Int), v4 = .int .i64 n ∧ v13 = .int .i64 x ∧ Aside0 (maskL g l0 m kq x n = maskV g l0) ∧ Aside0 (0 ≤ x ∧ x ≤ m ∧ x + kq = 9) ∧ Aside0 (Below w.heap.size w w'))
  case atStart => exact ⟨0, 0, rfl, rfl, HV, ⟨by have := HM.out; omega⟩, HB⟩
  case round =>
    clear HV
    obtain ⟨n, x, rfl, rfl, HV, HX, HB⟩ := hrel
    cases gk with
    | zero => exact absurd HX.out (by have := HM.out; omega)
    | succ k1 =>
      by_cases c2 : x < (m : Int)
      · have c3 : 0 ≤ x := HX.out.1
        have c4 : x < (l0.length : Int) := by have := HM.out; omega
        have H' := HV.out
        rw [maskL, if_pos c2] at H'
        have c2b0 : decide (x < (m : Int)) = true := decide_eq_true c2
        obtain ⟨ad, e, h0, h1, h2, h3, h4, h5, h6, h7, h8, h9, h10⟩ := at_T39 HR0.out x c3 c4
        cases e
        replace h0 := (HB.out.cell (World.block_lt_of_cell? w _ h0)).trans h0
        replace h1 := (HB.out.cell (World.block_lt_of_cell? w _ h1)).trans h1
        replace h2 := (HB.out.cell (World.block_lt_of_cell? w _ h2)).trans h2
        replace h3 := (HB.out.cell (World.block_lt_of_cell? w _ h3)).trans h3
        replace h4 := (HB.out.cell (World.block_lt_of_cell? w _ h4)).trans h4
        replace h5 := (HB.out.cell (World.block_lt_of_cell? w _ h5)).trans h5
        replace h6 := (HB.out.cell (World.block_lt_of_cell? w _ h6)).trans h6
        replace h7 := (HB.out.cell (World.block_lt_of_cell? w _ h7)).trans h7
        replace h8 := (HB.out.cell (World.block_lt_of_cell? w _ h8)).trans h8
        replace h9 := (HB.out.cell (World.block_lt_of_cell? w _ h9)).trans h9
        replace h10 := (HB.out.cell (World.block_lt_of_cell? w _ h10)).trans h10
        have WX := Aside0.mk (show wrap64 (x + 1) = x + 1 by unfold wrap64; have := HM.out; omega)
        have p241 := eq_true c3
        have q241 := eq_true c2
        have q242 := eq_true c4
        have p5 : decide (x < 0) = false := by simp only [decide_eq_false_iff_not]; omega
        clear c2 c4
        rcases Bool.eq_false_or_eq_true (g (rd_T39 l0 x)) with c5 | c5
        · rw [if_pos c5] at H'
          have A4 := Aside0.mk c5
          have HV2 := Aside0.mk H'
          clear c5 H'
          go_wp2_with fail
          rw [HE0.out]
          refine (HG.out (rd_T39 l0 x) _).mono ?_
          rw [A4.out]
          rintro e w6 ⟨rfl, hb⟩
          have HB6 := Aside0.mk (below_step (by repeat (first | (with_reducible first | exact HB.out | apply below_alloc | apply pw_below_drewN | apply below_drew1) | refine Quiet.Bel.set ?_ (by have := HB.out.size; first | omega | (simp; omega)))) hb)
          clear hb
          go_wp2_with fail
          go_roundg k1
          case measure => have := HX.out; omega
          case rel => rw [WX.out]; exact ⟨_, _, rfl, rfl, HV2, ⟨by have := HX.out; have := HM.out; have := of_eq_true q241; omega⟩, HB6⟩
        · rw [if_neg (by rw [c5]; decide)] at H'
          have A4 := Aside0.mk c5
          have HV2 := Aside0.mk H'
          clear c5 H'
          go_wp2_with fail
          rw [HE0.out]
          refine (HG.out (rd_T39 l0 x) _).mono ?_
          rw [A4.out]
          rintro e w6 ⟨rfl, hb⟩
          have HB6 := Aside0.mk (below_step (by repeat (first | (with_reducible first | exact HB.out | apply below_alloc | apply pw_below_drewN | apply below_drew1) | refine Quiet.Bel.set ?_ (by have := HB.out.size; first | omega | (simp; omega)))) hb)
          clear hb
          go_wp2_with fail
          go_roundg k1
          case measure => have := HX.out; omega
          case rel => rw [WX.out]; exact ⟨_, _, rfl, rfl, HV2, ⟨by have := HX.out; have := HM.out; have := of_eq_true q241; omega⟩, HB6⟩
      · have H' := HV.out
        rw [maskL, if_neg c2] at H'
        have c2b0 : decide (x < (m : Int)) = false := decide_eq_false c2
        clear c2
        have HE := Aside0.mk H'
        clear H'
        go_wp2
        go_ret
        exact ⟨by rw [HE.out]; rfl, HB.out⟩
def record_Of.f (a0_0 : Int) (a0_1 : Int) (l1 : List (S39)) : Option (Int × Int × Int) := some (a0_0, maskV (fun x => x.f0.f3) l1, maskV (fun x => x.f1.f2) l1)
set_option maxHeartbeats 8000000 in
set_option maxRecDepth 100000 in
theorem record_Of.calls (a0_0 : Int) (a0_1 : Int) (A1 : Option Addr) (c1 : Nat) (l1 : List (S39)) (r1 : Int) (r2 : Int) (r3 : Int) (w : World) (hr1 : Kd.C k39 w A1 l1.length l1) (hc1 : l1.length ≤ c1) (h : record_Of.f a0_0 a0_1 l1 = some (r1, r2, r3)) :
    Calls Try.prog 20 #[.agg #[.int .i64 a0_0, .int .i64 a0_1], .slice A1 l1.length c1] w fun e w' => e = .returned (.agg #[.int .i64 r1, .int .i64 r2, .int .i64 r3]) ∧ Below w.heap.size w w' := by
  unfold record_Of.f at h
  simp only [Option.some.injEq, Prod.mk.injEq] at h
  obtain ⟨rfl, rfl, rfl⟩ := h
  have HR1 := Aside0.mk hr1
  have HC1 := Aside0.mk hc1
  clear hr1 hc1
  have bk0 : ((w.alloc (.cells #[.int .i64 a0_0, .int .i64 a0_1] 44)).alloc (.cells #[.int .i64 0, .int .i64 0, .int .i64 0] 46)).heap[w.heap.size]? = some (.cells #[.int .i64 a0_0, .int .i64 a0_1] 44 (0, 0)) := blk_alloc (blk_new w _) _
  have bk1 : ((w.alloc (.cells #[.int .i64 a0_0, .int .i64 a0_1] 44)).alloc (.cells #[.int .i64 0, .int .i64 0, .int .i64 0] 46)).heap[w.heap.size + 1]? = some (.cells #[.int .i64 0, .int .i64 0, .int .i64 0] 46 (0, 0)) := by
    have e := blk_new (w.alloc (.cells #[.int .i64 a0_0, .int .i64 a0_1] 44)) (.cells #[.int .i64 0, .int .i64 0, .int .i64 0] 46 (0, 0))
    have e2 : (w.alloc (.cells #[.int .i64 a0_0, .int .i64 a0_1] 44)).heap.size = w.heap.size + 1 := by go_simp
    rw [e2] at e
    exact e
  have HK0 := Aside0.mk bk0
  have HK1 := Aside0.mk bk1
  clear bk0 bk1
  have HB : Aside0 (Below w.heap.size w ((w.alloc (.cells #[.int .i64 a0_0, .int .i64 a0_1] 44)).alloc (.cells #[.int .i64 0, .int .i64 0, .int .i64 0] 46))) := ⟨by repeat (with_reducible first | exact Below.refl _ _ | apply below_alloc)⟩
  go_enter Try.func20, Try.ntmps20
  go_wp2_with fail
  apply Quiet.tail (S := (fun w' => (w'.heap[w.heap.size]? = some (.cells #[.int .i64 a0_0, .int .i64 a0_1] 44) ∧ w'.heap[w.heap.size + 1]? = some (.cells #[.int .i64 0, .int .i64 0, .int .i64 0] 46)) ∧ Below w.heap.size w w')) (n := 7) (hm := by kernel_rfl) (hB := by kernel_rfl) (hz := by kernel_rfl) (hS := fun w' hw => ⟨⟨blk_below HK0.out hw, blk_below HK1.out hw⟩, below_step HB.out hw⟩)
  case h =>
    intro W1 hcell
    simp only [List.take_succ_cons, List.take_zero, List.eraseIdx_cons_succ, List.eraseIdx_cons_zero, List.drop_succ_cons, List.drop_zero]
    repeat (first
      | go_big_quiet_skip
      | (go_big_quiet_want; go_big_quiet_op; go_big_quiet_on)
      | (refine Quiet.val _ _ (by rfl) (by (intro w' hC; obtain ⟨⟨s0, s1⟩, s2⟩ := hcell w' hC; have q0 : w'.cell? ⟨w.heap.size, 0, none⟩ = some (.int .i64 a0_0) := blk_cell s0 0; clear s0 s1 s2; go_simp; with_reducible rfl)) (by (simp only [Act.put, List.setIfInBounds_toArray, List.set_cons_zero, List.set_cons_succ]; rfl)) ?_)
      | (refine Quiet.call (args := #[.slice A1 l1.length c1, .func (.func 30) #[] #[]]) _ _ (by rfl) (by rfl) Try.func29 (by kernel_rfl) rfl (by simp only [List.map_toArray, List.map_cons, List.map_nil]; rfl) (fun w' hC => mask.calls (fun x => x.f0.f3) 30 A1 c1 l1 w' (Kd.C_below HR1.out (hcell w' hC).2) HC1.out wrong_enter wrongOf.calls) (by (simp only [Act.put, List.setIfInBounds_toArray, List.set_cons_zero, List.set_cons_succ]; rfl)) ?_)
      | (refine Quiet.call (args := #[.slice A1 l1.length c1, .func (.func 31) #[] #[]]) _ _ (by rfl) (by rfl) Try.func29 (by kernel_rfl) rfl (by simp only [List.map_toArray, List.map_cons, List.map_nil]; rfl) (fun w' hC => mask.calls (fun x => x.f1.f2) 31 A1 c1 l1 w' (Kd.C_below HR1.out (hcell w' hC).2) HC1.out jump_enter jumpOf.calls) (by (simp only [Act.put, List.setIfInBounds_toArray, List.set_cons_zero, List.set_cons_succ]; rfl)) ?_))
    exact Quiet.done rfl
  intro W0 hW0 w' hbel hS
  obtain ⟨⟨s0, s1⟩, s2⟩ := hS
  have q0 : w'.cell? ⟨w.heap.size + 1, 0, none⟩ = some (.int .i64 0) := blk_cell s1 0
  have f0 := Quiet.frozen_of s1 0
  have q1 : w'.cell? ⟨w.heap.size + 1, 1, none⟩ = some (.int .i64 0) := blk_cell s1 1
  have f1 := Quiet.frozen_of s1 1
  have q2 : w'.cell? ⟨w.heap.size + 1, 2, none⟩ = some (.int .i64 0) := blk_cell s1 2
  have f2 := Quiet.frozen_of s1 2
  have HS1 := Aside0.mk s1
  have HB2 := Aside0.mk s2
  simp only [List.take_succ_cons, List.take_zero, List.eraseIdx_cons_succ, List.eraseIdx_cons_zero, List.drop_succ_cons, List.drop_zero, Act.put, List.setIfInBounds_toArray, List.set_cons_zero, List.set_cons_succ]
  clear s0 s1 s2 hbel hW0
  go_wp2_with fail
  refine bodyPost_ret (results_cell_row rfl _ _ (w.heap.size + 1) 46 _ (0, 0) _ rfl (by refine blk_put (cs := #[.int .i64 a0_0, .int .i64 (maskV (fun x => x.f0.f3) l1), .int .i64 0]) ?_ 2 _ rfl; refine blk_put (cs := #[.int .i64 a0_0, .int .i64 0, .int .i64 0]) ?_ 1 _ rfl; exact blk_put (cs := #[.int .i64 0, .int .i64 0, .int .i64 0]) HS1.out 0 _ rfl) Try.underlying46 rfl (by kernel_rfl)) rfl ?_
  exact ⟨rfl, by repeat (with_reducible first | exact HB2.out | refine Quiet.Bel.set ?_ (by omega))⟩
end Go.Proofs.Ytjjnfjhhimijmaa.A
