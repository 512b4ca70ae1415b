/- The law AxleWrong, walked: at any counters, and any row of what comes, it answers true. -/
import Derived.Test.YtdnokmlonahmnaaHandSmall11
import Derived.Test.YtdnokmlonahmnaaHas
import Derived.Outline
import Derived.Deep.RegionHeld3
import Derived.Deep.DrawnRows
import Derived.Deep.QuietTactic
import Derived.BigQuiet
import Derived.BigRegion
import Derived.Deep.RegionWith
namespace Go.Proofs.Ytdnokmlonahmnaa.A
open Go.RowKit Go.Proofs.YtdnokmlonahmnaaW.PrintWords Go.Proofs.YtdnokmlonahmnaaW.PrintLast Go.Proofs.YtdnokmlonahmnaaW.PrintMore
set_option linter.unusedVariables false
set_option linter.unusedSimpArgs false
attribute [local go_sem] Quiet.bel_all
attribute [local go_sem ↓] Go.wp_at_zero Go.wp_at_succ
theorem axleOn_b (h : Bool) (x y : Int) (z : Bool) (w : World) : Calls Try.prog 24 #[.agg #[.bool h, .int .i64 x, .int .i64 y, .bool z]] w fun e w' => e = .returned (.int .i64 (ahead x y)) ∧ Below w.heap.size w w' :=
  (axle_On.at h x y z _ w rfl).mono fun _ _ ⟨he, hw⟩ => ⟨he, hw ▸ (Below.refl _ _).alloc (Nat.le_refl _) _⟩
theorem axleClear_b (h : Bool) (x y : Int) (z : Bool) (r : Bool) (w : World) (e : (h && !z && (ahead x y == 0)) = r) : Calls Try.prog 26 #[.agg #[.bool h, .int .i64 x, .int .i64 y, .bool z]] w fun e w' => e = .returned (.bool r) ∧ Below w.heap.size w w' :=
  (axle_Clear.at h x y z r w e).mono fun _ _ ⟨he, hw⟩ => ⟨he, by rw [hw]; split <;> repeat (with_reducible first | exact Below.refl _ _ | apply below_alloc)⟩
theorem axleReset_b (h : Bool) (x y : Int) (z : Bool) (r : Bool) (w : World) (e : (z && (ahead x y != 0)) = r) : Calls Try.prog 28 #[.agg #[.bool h, .int .i64 x, .int .i64 y, .bool z]] w fun e w' => e = .returned (.agg #[.bool h, .int .i64 x, .int .i64 y, .bool r]) ∧ Below w.heap.size w w' :=
  (axle_Reset.at h x y z r w e).mono fun _ _ ⟨he, hw⟩ => ⟨he, by rw [hw]; split <;> repeat (with_reducible first | exact Below.refl _ _ | apply below_alloc)⟩
theorem blk_bel {W w' : World} {g : Nat} {o : Obj} (h : W.heap[g]? = some o) (hb : Quiet.Bel W w') : w'.heap[g]? = some o := blk_below h hb
abbrev kP : Kd (Int × Int) := Kd.pair (Kd.int .i64) (Kd.int .i64)
def rd_P (xs : List (Int × Int)) (i : Int) : Int × Int := xs.getD i.toNat (0, 0)
theorem at_P {w : World} {A : Option Addr} {n : Nat} {xs : List (Int × Int)} (h : Kd.C kP w A n xs) (i : Int) (h0 : 0 ≤ i) (h1 : i < n) : ∃ ad, A = some ad ∧ w.cell? (ad.add (i.toNat * 2)) = some (.int .i64 (rd_P xs i).1) ∧ w.cell? ⟨(ad.add (i.toNat * 2)).block, (ad.add (i.toNat * 2)).off + 1, none⟩ = some (.int .i64 (rd_P xs i).2) := by
  obtain ⟨ad, c, e, _, hK, hc0⟩ := Kd.C_get h (0, 0) i h0 h1
  have hc : ∀ j u, c[j]? = some u → w.cell? (ad.add (i.toNat * 2 + j)) = some u := hc0
  obtain ⟨_, _, rfl, rfl, rfl⟩ := hK
  exact ⟨ad, e, hc 0 _ rfl, by rw [← add_field _ _ 1 (by omega)]; exact hc 1 _ rfl⟩
set_option maxHeartbeats 40000000 in
set_option maxRecDepth 100000 in
theorem AxleWrong.walk (w : World) (a0_0 : Bool) (a0_1 a0_2 : Int) (a0_3 : Bool) (A1 : Option Addr) (c1 : Nat) (l1 : List (Int × Int)) (w01 : (Lit.int .i64 a0_1).wf = true) (w02 : (Lit.int .i64 a0_2).wf = true) (hc1 : l1.length ≤ c1) (hr1 : Kd.C kP w A1 l1.length l1) :
    Calls Try.prog 10 #[.agg #[.bool a0_0, .int .i64 a0_1, .int .i64 a0_2, .bool a0_3], .slice A1 l1.length c1] w fun e w' => e = .returned (.bool true) ∧ Below w.heap.size w w' := by
  clear w01 w02
  have HR1 := Aside0.mk hr1
  have HC1 := Aside0.mk hc1
  clear hr1 hc1
  have hu41 := Try.underlying41
  have hu42 := Try.underlying42
  rcases Bool.eq_false_or_eq_true (decide ((l1.length : Int) > 200)) with g1 | g1
  · go_enter Try.func10, Try.ntmps10
    go_wp2_with fail
    refine (crossbucklaw11_small.calls true _ rfl).mono ?_
    rintro e w1 ⟨rfl, hb1⟩
    have H1 : Aside0 (Below w.heap.size w w1) := ⟨below_step (below_alloc (Below.refl _ _) _) hb1⟩
    clear hb1
    go_wp2_with fail
    go_ret
    exact ⟨rfl, H1.out⟩
  · have HL := Aside0.mk (show (l1.length : Int) ≤ 200 by have := of_decide_eq_false g1; omega)
    go_enter Try.func10, Try.ntmps10
    go_wp2_with fail
    refine (crossbucklaw11_small.calls true _ rfl).mono ?_
    rintro e w1 ⟨rfl, hb1⟩
    have H1 : Aside0 (Below w.heap.size w w1) := ⟨below_step (below_alloc (Below.refl _ _) _) hb1⟩
    have BK1 := Aside0.mk (blk_below (blk_new w (.cells #[.bool a0_0, .int .i64 a0_1, .int .i64 a0_2, .bool a0_3] 34 (0, 0))) hb1)
    clear hb1
    have q0 : w1.cell? ⟨w.heap.size, 0, none⟩ = some (.bool a0_0) := blk_cell BK1.out 0
    have q1 : w1.cell? ⟨w.heap.size, 1, none⟩ = some (.int .i64 a0_1) := blk_cell BK1.out 1
    have q2 : w1.cell? ⟨w.heap.size, 2, none⟩ = some (.int .i64 a0_2) := blk_cell BK1.out 2
    have q3 : w1.cell? ⟨w.heap.size, 3, none⟩ = some (.bool a0_3) := blk_cell BK1.out 3
    have f3 := Quiet.frozen_of BK1.out 3
    go_wp2_with fail
    go_loopg [6] (l1.length + 1) (fun kq v6 w' => ∃ (h : Bool) (x y i : Int), v6 = .int .i64 i ∧ Aside0 (0 ≤ i ∧ i ≤ l1.length ∧ i + kq = l1.length + 1) ∧ Aside0 (w'.heap[w.heap.size]? = some (.cells #[.bool h, .int .i64 x, .int .i64 y, .bool true] 34 (0, 0))) ∧ Aside0 (Below w.heap.size w w'))
    case atStart =>
      exact ⟨a0_0, a0_1, a0_2, 0, rfl, ⟨by omega⟩, ⟨blk_put BK1.out 3 (.bool true) rfl⟩, ⟨Quiet.Bel.set H1.out (by omega)⟩⟩
    case round =>
      clear H1 BK1 q0 q1 q2 q3 f3 g1
      obtain ⟨h, x, y, i, rfl, HI, HBK, HB⟩ := hrel
      have q0 := blk_cell HBK.out 0
      have q1 := blk_cell HBK.out 1
      have q2 := blk_cell HBK.out 2
      by_cases c2 : i < (l1.length : Int)
      · have c3 : 0 ≤ i := HI.out.1
        have c2b : decide (i < (l1.length : Int)) = true := decide_eq_true c2
        cases gk with
        | zero => exact absurd HI.out (by omega)
        | succ k1 =>
        have HI2 := Aside0.mk (show 0 ≤ i + 1 ∧ i + 1 ≤ l1.length ∧ (i + 1) + (k1 : Int) = l1.length + 1 by have := HI.out; omega)
        have WX := Aside0.mk (show wrap64 (i + 1) = i + 1 by unfold wrap64; have := HL.out; omega)
        obtain ⟨ad, e, h0, h1⟩ := at_P HR1.out i c3 c2
        cases e
        have HW0 := Aside0.mk h0
        have HW1 := Aside0.mk h1
        replace h0 := (HB.out.cell (World.block_lt_of_cell? w _ h0)).trans h0
        replace h1 := (HB.out.cell (World.block_lt_of_cell? w _ h1)).trans h1
        generalize hA : (rd_P l1 i).1 = p at h0 h1 HW0 HW1
        generalize hB : (rd_P l1 i).2 = q at h0 h1 HW0 HW1
        clear hA hB
        have p241 := eq_true c3
        have q241 := eq_true c2
        clear c2 c3
        clear q0 q1 q2
        go_wp2_with fail
        have HH0 := Aside0.mk h0
        have HH1 := Aside0.mk h1
        clear h0 h1
        apply Quiet.tail (S := (fun w' => w'.heap[w.heap.size]? = some (.cells #[.bool h, .int .i64 x, .int .i64 y, .bool true] 34 (0, 0)) ∧ w'.cell? (ad.add (i.toNat * 2)) = some (.int .i64 p) ∧ w'.cell? ⟨(ad.add (i.toNat * 2)).block, (ad.add (i.toNat * 2)).off + 1, none⟩ = some (.int .i64 q))) (n := 12) (hm := by kernel_rfl) (hB := by kernel_rfl) (hz := by kernel_rfl) (hS := fun w' hw => ⟨blk_bel HBK.out hw, Quiet.Bel.cellA hw HH0.out, Quiet.Bel.cellA hw HH1.out⟩)
        case h =>
          intro W1 hcell
          simp only [List.take_succ_cons, List.take_zero, List.eraseIdx_cons_succ, List.eraseIdx_cons_zero, List.drop_succ_cons, List.drop_zero]
          repeat (first
            | go_big_quiet_skip
            | (go_big_quiet_want; go_big_quiet_op; go_big_quiet_on)
            | (refine Quiet.val _ _ (by rfl) (by (intro w' hC; obtain ⟨s0, s1, s2⟩ := hcell w' hC; have q0 : w'.cell? ⟨w.heap.size, 0, none⟩ = some (.bool h) := blk_cell s0 0; have q1 : w'.cell? ⟨w.heap.size, 1, none⟩ = some (.int .i64 x) := blk_cell s0 1; have q2 : w'.cell? ⟨w.heap.size, 2, none⟩ = some (.int .i64 y) := blk_cell s0 2; have q3 : w'.cell? ⟨w.heap.size, 3, none⟩ = some (.bool true) := blk_cell s0 3; clear s0; go_simp; with_reducible rfl)) (by (simp only [Act.put, List.setIfInBounds_toArray, List.set_cons_zero, List.set_cons_succ]; rfl)) ?_)
            | (refine Quiet.call (args := #[.agg #[.bool h, .int .i64 x, .int .i64 y, .bool true], .int .i64 p, .int .i64 q]) _ _ (by rfl) (by rfl) Try.func22 (by kernel_rfl) rfl (by simp only [List.map_toArray, List.map_cons, List.map_nil]; rfl) (fun w' hC => axle_Step.calls h x y true p q true (p % 256) (q % 256) true w' (by simp [axle_Step.f])) (by (simp only [Act.put, List.setIfInBounds_toArray, List.set_cons_zero, List.set_cons_succ]; rfl)) ?_))
          exact Quiet.done rfl
        intro W0 hW0 w' hbel hS
        obtain ⟨s0, s1, s2⟩ := hS
        have q0 : w'.cell? ⟨w.heap.size, 0, none⟩ = some (.bool h) := blk_cell s0 0
        have f0 := Quiet.frozen_of s0 0
        have q1 : w'.cell? ⟨w.heap.size, 1, none⟩ = some (.int .i64 x) := blk_cell s0 1
        have f1 := Quiet.frozen_of s0 1
        have q2 : w'.cell? ⟨w.heap.size, 2, none⟩ = some (.int .i64 y) := blk_cell s0 2
        have f2 := Quiet.frozen_of s0 2
        have q3 : w'.cell? ⟨w.heap.size, 3, none⟩ = some (.bool true) := blk_cell s0 3
        have f3 := Quiet.frozen_of s0 3
        have BK5 := (blk_put (blk_put (blk_put (blk_put s0 0 (.bool true) rfl) 1 (.int .i64 (p % 256)) rfl) 2 (.int .i64 (q % 256)) rfl) 3 (.bool true) rfl)
        have B5 := (Quiet.Bel.set (k := 3) (v := .bool true) (Quiet.Bel.set (k := 2) (v := .int .i64 (q % 256)) (Quiet.Bel.set (k := 1) (v := .int .i64 (p % 256)) (Quiet.Bel.set (k := 0) (v := .bool true) (Quiet.Bel.out HB.out hW0 hbel) (Nat.le_refl _)) (Nat.le_refl _)) (Nat.le_refl _)) (Nat.le_refl _))
        simp only [List.take_succ_cons, List.take_zero, List.eraseIdx_cons_succ, List.eraseIdx_cons_zero, List.drop_succ_cons, List.drop_zero, Act.put, List.setIfInBounds_toArray, List.set_cons_zero, List.set_cons_succ]
        clear hbel HBK HB s0 s1 s2
        refine store_event rfl rfl rfl (w1 := ((((w'.setCell ⟨w.heap.size, 0, none⟩ (.bool true)).setCell ⟨w.heap.size, 1, none⟩ (.int .i64 (p % 256))).setCell ⟨w.heap.size, 2, none⟩ (.int .i64 (q % 256))).setCell ⟨w.heap.size, 3, none⟩ (.bool true))) (by go_simp) ?_
        intro w5 hw5
        rw [← hw5] at BK5 B5
        clear hw5 q0 q1 q2 q3 f0 f1 f2 f3
        have HBK := Aside0.mk BK5
        have HB := Aside0.mk B5
        clear BK5 B5 HH0 HH1 HW0 HW1
        have q0 : w5.cell? ⟨w.heap.size, 0, none⟩ = some (.bool true) := blk_cell HBK.out 0
        have q1 : w5.cell? ⟨w.heap.size, 1, none⟩ = some (.int .i64 (p % 256)) := blk_cell HBK.out 1
        have q2 : w5.cell? ⟨w.heap.size, 2, none⟩ = some (.int .i64 (q % 256)) := blk_cell HBK.out 2
        have q3 : w5.cell? ⟨w.heap.size, 3, none⟩ = some (.bool true) := blk_cell HBK.out 3
        go_wp2_with fail
        refine (axleClear_b true (p % 256) (q % 256) true false _ (by simp)).mono ?_
        rintro e w6 ⟨rfl, hb6⟩
        have HBK6 := Aside0.mk (blk_below HBK.out hb6)
        have HB6 : Aside0 (Below w.heap.size w w6) := ⟨below_step HB.out hb6⟩
        clear hb6 q0 q1 q2 q3 HBK HB
        have q0 : w6.cell? ⟨w.heap.size, 0, none⟩ = some (.bool true) := blk_cell HBK6.out 0
        have q1 : w6.cell? ⟨w.heap.size, 1, none⟩ = some (.int .i64 (p % 256)) := blk_cell HBK6.out 1
        have q2 : w6.cell? ⟨w.heap.size, 2, none⟩ = some (.int .i64 (q % 256)) := blk_cell HBK6.out 2
        have q3 : w6.cell? ⟨w.heap.size, 3, none⟩ = some (.bool true) := blk_cell HBK6.out 3
        go_wp2_with fail
        go_roundg k1
        case measure => have := HI.out; omega
        case rel => rw [WX.out]; exact ⟨true, _, _, _, rfl, HI2, HBK6, HB6⟩
      · have c2b : decide (i < (l1.length : Int)) = false := decide_eq_false c2
        clear c2
        have y0 : wr.cell? ⟨w.heap.size, 0, none⟩ = some (.bool h) := blk_cell HBK.out 0
        have y1 : wr.cell? ⟨w.heap.size, 1, none⟩ = some (.int .i64 x) := blk_cell HBK.out 1
        have y2 : wr.cell? ⟨w.heap.size, 2, none⟩ = some (.int .i64 y) := blk_cell HBK.out 2
        have y3 : wr.cell? ⟨w.heap.size, 3, none⟩ = some (.bool true) := blk_cell HBK.out 3
        clear q0 q1 q2
        go_wp2_with fail
        refine (axleReset_b h x y true (ahead x y != 0) _ (by simp)).mono ?_
        rintro e w2 ⟨rfl, hb2⟩
        have HBK2 := Aside0.mk (blk_below HBK.out hb2)
        have HB2 : Aside0 (Below w.heap.size w w2) := ⟨below_step HB.out hb2⟩
        have hlt : w.heap.size < w2.heap.size := blk_lt HBK2.out
        clear hb2 y0 y1 y2 y3 HBK HB
        go_wp2_with fail
        have BR : (w2.alloc (.cells #[.bool h, .int .i64 x, .int .i64 y, .bool (ahead x y != 0)] 34)).heap[w2.heap.size]? = some (.cells #[.bool h, .int .i64 x, .int .i64 y, .bool (ahead x y != 0)] 34 (0, 0)) := blk_new w2 _
        have BA := blk_alloc HBK2.out (.cells #[.bool h, .int .i64 x, .int .i64 y, .bool (ahead x y != 0)] 34)
        have BB : Below w.heap.size w (w2.alloc (.cells #[.bool h, .int .i64 x, .int .i64 y, .bool (ahead x y != 0)] 34)) := below_alloc HB2.out _
        have HBR := Aside0.mk BR
        have HBA := Aside0.mk BA
        have HBB := Aside0.mk BB
        clear BR BA BB hlt HBK2 HB2
        rcases Bool.eq_false_or_eq_true (ahead x y == 0) with hz | hz
        · have hz2 : (ahead x y != 0) = false := by simp only [bne, hz]; rfl
          simp only [hz2] at HBR HBA HBB ⊢
          refine Quiet.start (fun w' => w'.heap[w2.heap.size]? = some (.cells #[.bool h, .int .i64 x, .int .i64 y, .bool false] 34 (0, 0)) ∧ w'.heap[w.heap.size]? = some (.cells #[.bool h, .int .i64 x, .int .i64 y, .bool true] 34 (0, 0))) (by kernel_rfl) (by kernel_rfl) (fun w' hw => ⟨blk_bel HBR.out hw, blk_bel HBA.out hw⟩) (fun W2 hW2 hcell => ?_)
          repeat (first
            | go_big_quiet_skip
            | (go_big_quiet_want; go_big_quiet_op; go_big_quiet_on)
            | (refine Quiet.val _ _ (by rfl) (by (intro w' hC; obtain ⟨s0, s1⟩ := hcell w' hC; have r0 : w'.cell? ⟨w2.heap.size, 0, none⟩ = some (.bool h) := blk_cell s0 0; have r1 : w'.cell? ⟨w2.heap.size, 1, none⟩ = some (.int .i64 x) := blk_cell s0 1; have r2 : w'.cell? ⟨w2.heap.size, 2, none⟩ = some (.int .i64 y) := blk_cell s0 2; have r3 : w'.cell? ⟨w2.heap.size, 3, none⟩ = some (.bool false) := blk_cell s0 3; have q0 : w'.cell? ⟨w.heap.size, 0, none⟩ = some (.bool h) := blk_cell s1 0; have q1 : w'.cell? ⟨w.heap.size, 1, none⟩ = some (.int .i64 x) := blk_cell s1 1; have q2 : w'.cell? ⟨w.heap.size, 2, none⟩ = some (.int .i64 y) := blk_cell s1 2; have q3 : w'.cell? ⟨w.heap.size, 3, none⟩ = some (.bool true) := blk_cell s1 3; clear s0 s1; go_simp; with_reducible rfl)) (by (simp only [Act.put, List.setIfInBounds_toArray, List.set_cons_zero, List.set_cons_succ]; rfl)) ?_)
            | (refine Quiet.call (args := #[.agg #[.bool h, .int .i64 x, .int .i64 y, .bool true]]) _ _ (by rfl) (by rfl) Try.func24 (by kernel_rfl) rfl (by simp only [List.map_toArray, List.map_cons, List.map_nil]; rfl) (fun w' hC => axleOn_b h x y true w') (by (simp only [Act.put, List.setIfInBounds_toArray, List.set_cons_zero, List.set_cons_succ]; rfl)) ?_)
            | (refine Quiet.call (args := #[.agg #[.bool h, .int .i64 x, .int .i64 y, .bool false]]) _ _ (by rfl) (by rfl) Try.func26 (by kernel_rfl) rfl (by simp only [List.map_toArray, List.map_cons, List.map_nil]; rfl) (fun w' hC => axleClear_b h x y false (h) w' (by simp [hz])) (by (simp only [Act.put, List.setIfInBounds_toArray, List.set_cons_zero, List.set_cons_succ]; rfl)) ?_))
          refine Quiet.done ?_
          intro w6 hbel
          have B6 := Aside0.mk (Quiet.Bel.out HBB.out hW2 hbel)
          clear hbel hcell hW2
          go_wp2
          go_ret
          exact ⟨by first | rfl | simp [hz2], B6.out⟩
        · have hz2 : (ahead x y != 0) = true := by simp only [bne, hz]; rfl
          simp only [hz2] at HBR HBA HBB ⊢
          refine Quiet.start (fun w' => w'.heap[w2.heap.size]? = some (.cells #[.bool h, .int .i64 x, .int .i64 y, .bool true] 34 (0, 0)) ∧ w'.heap[w.heap.size]? = some (.cells #[.bool h, .int .i64 x, .int .i64 y, .bool true] 34 (0, 0))) (by kernel_rfl) (by kernel_rfl) (fun w' hw => ⟨blk_bel HBR.out hw, blk_bel HBA.out hw⟩) (fun W2 hW2 hcell => ?_)
          repeat (first
            | go_big_quiet_skip
            | (go_big_quiet_want; go_big_quiet_op; go_big_quiet_on)
            | (refine Quiet.val _ _ (by rfl) (by (intro w' hC; obtain ⟨s0, s1⟩ := hcell w' hC; have r0 : w'.cell? ⟨w2.heap.size, 0, none⟩ = some (.bool h) := blk_cell s0 0; have r1 : w'.cell? ⟨w2.heap.size, 1, none⟩ = some (.int .i64 x) := blk_cell s0 1; have r2 : w'.cell? ⟨w2.heap.size, 2, none⟩ = some (.int .i64 y) := blk_cell s0 2; have r3 : w'.cell? ⟨w2.heap.size, 3, none⟩ = some (.bool true) := blk_cell s0 3; have q0 : w'.cell? ⟨w.heap.size, 0, none⟩ = some (.bool h) := blk_cell s1 0; have q1 : w'.cell? ⟨w.heap.size, 1, none⟩ = some (.int .i64 x) := blk_cell s1 1; have q2 : w'.cell? ⟨w.heap.size, 2, none⟩ = some (.int .i64 y) := blk_cell s1 2; have q3 : w'.cell? ⟨w.heap.size, 3, none⟩ = some (.bool true) := blk_cell s1 3; clear s0 s1; go_simp; with_reducible rfl)) (by (simp only [Act.put, List.setIfInBounds_toArray, List.set_cons_zero, List.set_cons_succ]; rfl)) ?_)
            | (refine Quiet.call (args := #[.agg #[.bool h, .int .i64 x, .int .i64 y, .bool true]]) _ _ (by rfl) (by rfl) Try.func24 (by kernel_rfl) rfl (by simp only [List.map_toArray, List.map_cons, List.map_nil]; rfl) (fun w' hC => axleOn_b h x y true w') (by (simp only [Act.put, List.setIfInBounds_toArray, List.set_cons_zero, List.set_cons_succ]; rfl)) ?_)
            | (refine Quiet.call (args := #[.agg #[.bool h, .int .i64 x, .int .i64 y, .bool true]]) _ _ (by rfl) (by rfl) Try.func26 (by kernel_rfl) rfl (by simp only [List.map_toArray, List.map_cons, List.map_nil]; rfl) (fun w' hC => axleClear_b h x y true (false) w' (by simp [hz])) (by (simp only [Act.put, List.setIfInBounds_toArray, List.set_cons_zero, List.set_cons_succ]; rfl)) ?_))
          refine Quiet.done ?_
          intro w6 hbel
          have B6 := Aside0.mk (Quiet.Bel.out HBB.out hW2 hbel)
          clear hbel hcell hW2
          go_wp2
          go_ret
          exact ⟨by first | rfl | simp [hz2], B6.out⟩
end Go.Proofs.Ytdnokmlonahmnaa.A
