/- The law LockHolds, walked: at any row of what a signal may show it answers true. -/
import Derived.Test.YtllmckdmglacdaaAx8
import Derived.Test.YtllmckdmglacdaaPureLock
import Derived.Test.YtllmckdmglacdaaHas
import Derived.Outline
import Derived.Deep.RegionHeld3
import Derived.Deep.DrawnRows
import Derived.Deep.QuietTactic
import Derived.BigQuiet
import Derived.BigRegion
import Derived.Deep.RegionWith
namespace Go.Proofs.Ytllmckdmglacdaa.A
open Go.RowKit Go.Proofs.YtllmckdmglacdaaW.PrintWords Go.Proofs.YtllmckdmglacdaaW.PrintLast Go.Proofs.YtllmckdmglacdaaW.PrintMore
set_option linter.unusedVariables false
set_option linter.unusedSimpArgs false
attribute [local go_sem] Quiet.bel_all
attribute [local go_sem ↓] Go.wp_at_zero Go.wp_at_succ
theorem small22_k : ∃ k, crossbucklaw22_small.f k = some true := ⟨12, by decide +kernel⟩
theorem blk_bel {W w' : World} {g : Nat} {o : Obj} (h : W.heap[g]? = some o) (hb : Quiet.Bel W w') : w'.heap[g]? = some o := blk_below h hb
/-- What holds between ticks. -/
structure InvH (hold last i x : Int) : Prop where
  hi : 0 ≤ i
  hl : -1 - hold ≤ last ∧ last ≤ i - 1
  hx : x = if hold - (i - 1 - last) < 0 then 0 else hold - (i - 1 - last)
set_option maxHeartbeats 40000000 in
set_option maxRecDepth 100000 in
theorem LockHolds.walk (w : World) (A0 : Option Addr) (c0 : Nat) (l0 : List Bool) (hold : Int) (wh : (Lit.int .i64 hold).wf = true) (hc0 : l0.length ≤ c0) (hr0 : Kd.C Kd.bool w A0 l0.length l0) :
    Calls Try.prog 10 #[.slice A0 l0.length c0, .int .i64 hold] w fun e w' => e = .returned (.bool true) ∧ Below w.heap.size w w' := by
  have HH := Aside0.mk (bounds_i64 wh)
  have HR0 := Aside0.mk hr0
  have HC0 := Aside0.mk hc0
  clear wh hr0 hc0
  obtain ⟨ks, hs⟩ := small22_k
  have HS := Aside0.mk hs
  clear hs
  have hlen : decide ((l0.length : Int) > 400) = true ∨ (decide ((l0.length : Int) > 400) = false ∧ decide (hold < 1) = true) ∨ (decide ((l0.length : Int) > 400) = false ∧ decide (hold < 1) = false ∧ decide (hold > 400) = true) ∨ (decide ((l0.length : Int) > 400) = false ∧ decide (hold < 1) = false ∧ decide (hold > 400) = false) := by
    simp only [decide_eq_true_eq, decide_eq_false_iff_not]
    omega
  rcases hlen with g1 | ⟨g1, g2⟩ | ⟨g1, g2, g3⟩ | ⟨g1, g2, g3⟩
  iterate 3
    · go_enter Try.func10, Try.ntmps10
      go_wp2_with fail
      refine (crossbucklaw22_small.calls ks true _ HS.out).mono ?_
      rintro e w1 ⟨rfl, hb1⟩
      have H1 := Aside0.mk hb1
      clear hb1
      go_wp2_with fail
      go_ret
      exact ⟨rfl, H1.out⟩
  have HL := Aside0.mk (show (l0.length : Int) ≤ 400 ∧ 1 ≤ hold ∧ hold ≤ 400 by simp only [decide_eq_false_iff_not] at g1 g2 g3; omega)
  go_enter Try.func10, Try.ntmps10
  go_wp2_with fail
  refine (crossbucklaw22_small.calls ks true _ HS.out).mono ?_
  rintro e w1 ⟨rfl, hb1⟩
  have H1 := Aside0.mk hb1
  clear hb1
  go_wp2_with fail
  clear g1 g2 g3
  go_loopg [7, 8] (l0.length + 1) (fun kq v7 v8 w' => ∃ (la i : Int) (c : Bool) (x : Int), v7 = .int .i64 la ∧ v8 = .int .i64 i ∧ Aside0 (InvH hold la i x) ∧ Aside0 ((l0.length : Int) - i < kq ∧ kq ≤ l0.length + 1) ∧ Aside0 (w'.heap[w1.heap.size]? = some (.cells #[.bool c, .int .i64 x] 38)) ∧ Aside0 (Below w.heap.size w w'))
  case atStart =>
    have hl := HL.out
    refine ⟨-1 - hold, 0, false, 0, ?_, rfl, ⟨⟨by omega, by omega, by rw [if_neg (by omega)]; omega⟩⟩, ⟨by omega⟩, ⟨?_⟩, ⟨?_⟩⟩
    · have := HL.out
      show Value.int .i64 (wrap64 (-1 - hold)) = _
      congr 1
      unfold wrap64
      omega
    · show (w1.heap.push _)[w1.heap.size]? = _
      simp
    · repeat (with_reducible first | exact H1.out | apply below_alloc)
  case round =>
    obtain ⟨la, i, c, x, rfl, rfl, HI, HK, HBK, HB⟩ := hrel
    have hi0 := HI.out.hi
    by_cases c2 : i < (l0.length : Int)
    case neg =>
      have c2b : decide (i < (l0.length : Int)) = false := decide_eq_false c2
      clear c2 hi0
      go_wp2
      go_ret
      exact ⟨rfl, HB.out⟩
    case pos =>
      obtain ⟨ad, e, hc⟩ := Kd.at_bool HR0.out i hi0 c2
      cases e
      have hcw := hc
      replace hc := (HB.out.cell (World.block_lt_of_cell? w _ hc)).trans hc
      have p1 := eq_true hi0
      have p2 := eq_true c2
      cases gk with
      | zero => exact absurd HK.out (by omega)
      | succ k1 =>
        have HE := Aside0.mk (show wrap64 (i + 1) = i + 1 by have := HL.out; unfold wrap64; omega)
        have HI3 := Aside0.mk c2
        clear hi0 c2
        rcases Bool.eq_false_or_eq_true (rdOf false l0 i) with hb | hb
        · have HCW := Aside0.mk (show w.cell? (ad.add i.toNat) = some (.bool true) by rw [← hb]; exact hcw)
          rw [hb] at hc
          have hv := HI.out
          have hl := HL.out
          have hi3 := HI3.out
          obtain ⟨v1, v2, v3⟩ := hv
          have HY := Aside0.mk (show lock_Step.f c x true hold = some (true, hold) by rw [Pure.lstep_on, if_neg (by omega)])
          have HI2 := Aside0.mk (show InvH hold i (i + 1) hold from ⟨by omega, by omega, by rw [if_neg (by omega)]; omega⟩)
          have HD := Aside0.mk (show lock_Locked.f true hold = some true from rfl)
          have r1 : decide (0 < hold) = true := decide_eq_true (by omega)
          have r2 : decide (wrap64 (i - i) < hold) = true := decide_eq_true (by unfold wrap64; omega)
          clear v1 v2 v3 hl hb hcw hi3
          go_wp2_with fail
          apply Quiet.tail (S := (fun w' => w'.heap[w1.heap.size]? = some (.cells #[.bool c, .int .i64 x] 38) ∧ w'.cell? (ad.add i.toNat) = some (.bool true))) (n := 7) (hm := by kernel_rfl) (hB := by kernel_rfl) (hz := by kernel_rfl) (hS := fun w' hw => ⟨blk_bel HBK.out hw, Quiet.Bel.cellA hw hc⟩)
          case h =>
            intro W1 hcell
            simp only [List.take_succ_cons, List.take_zero, List.drop_succ_cons, List.drop_zero]
            repeat (first
              | go_big_quiet_skip
              | (go_big_quiet_want; go_big_quiet_op; go_big_quiet_on)
              | (refine Quiet.val _ _ (by rfl) (by (intro w' hC; obtain ⟨s0, s1⟩ := hcell w' hC; have q0 : w'.cell? ⟨w1.heap.size, 0, none⟩ = some (.bool c) := blk_cell s0 0; have q1 : w'.cell? ⟨w1.heap.size, 1, none⟩ = some (.int .i64 x) := blk_cell s0 1; clear s0; go_simp; with_reducible rfl)) (by (simp only [Act.put, List.setIfInBounds_toArray, List.set_cons_zero, List.set_cons_succ]; rfl)) ?_)
              | (refine Quiet.call (args := #[.agg #[.bool c, .int .i64 x], .bool true, .int .i64 hold]) _ _ (by rfl) (by rfl) Try.func22 (by kernel_rfl) rfl (by simp only [List.map_toArray, List.map_cons, List.map_nil]; rfl) (fun w' hC => lock_Step.calls c x true hold true hold _ HY.out) (by (simp only [Act.put, List.setIfInBounds_toArray, List.set_cons_zero, List.set_cons_succ]; rfl)) ?_))
            exact Quiet.done rfl
          intro W0 hW0 w' hbel hS
          obtain ⟨s0, s1⟩ := hS
          have q0 : w'.cell? ⟨w1.heap.size, 0, none⟩ = some (.bool c) := blk_cell s0 0
          have q1 : w'.cell? ⟨w1.heap.size, 1, none⟩ = some (.int .i64 x) := blk_cell s0 1
          have f0 := Quiet.frozen_of s0 0
          have f1 := Quiet.frozen_of s0 1
          have hle := H1.out.size
          have BK5 := blk_put (blk_put s0 0 (.bool true) rfl) 1 (.int .i64 hold) rfl
          have B5 := Quiet.Bel.set (k := 1) (v := .int .i64 hold) (Quiet.Bel.set (k := 0) (v := .bool true) (Quiet.Bel.out HB.out hW0 hbel) hle) hle
          simp only [List.take_succ_cons, List.take_zero, List.drop_succ_cons, List.drop_zero, Act.put, List.setIfInBounds_toArray, List.set_cons_zero, List.set_cons_succ]
          clear hbel hle HBK HB hc s0
          refine store_event rfl rfl rfl (w1 := (w'.setCell ⟨w1.heap.size, 0, none⟩ (.bool true)).setCell ⟨w1.heap.size, 1, none⟩ (.int .i64 hold)) (by go_simp) ?_
          intro w5 hw5
          rw [← hw5] at BK5 B5
          clear hw5 q0 q1 f0 f1 s1
          have HBK := Aside0.mk BK5
          have HB := Aside0.mk B5
          clear BK5 B5
          have hc := (HB.out.cell (World.block_lt_of_cell? w _ HCW.out)).trans HCW.out
          have q0 : w5.cell? ⟨w1.heap.size, 0, none⟩ = some (.bool true) := blk_cell HBK.out 0
          have q1 : w5.cell? ⟨w1.heap.size, 1, none⟩ = some (.int .i64 hold) := blk_cell HBK.out 1
          go_wp2_with fail
          clear q0 q1
          refine Quiet.start (fun w' => w'.heap[w1.heap.size]? = some (.cells #[.bool true, .int .i64 hold] 38) ∧ w'.cell? (ad.add i.toNat) = some (.bool true)) (by kernel_rfl) (by kernel_rfl) (fun w' hw => ⟨blk_bel HBK.out hw, Quiet.Bel.cellA hw hc⟩) (fun W2 hW2 hcell => ?_)
          repeat (first
            | go_big_quiet_skip
            | (go_big_quiet_want; go_big_quiet_op; go_big_quiet_on)
            | (refine Quiet.val _ _ (by rfl) (by (intro w' hC; obtain ⟨s0, s1⟩ := hcell w' hC; have q0 : w'.cell? ⟨w1.heap.size, 0, none⟩ = some (.bool true) := blk_cell s0 0; have q1 : w'.cell? ⟨w1.heap.size, 1, none⟩ = some (.int .i64 hold) := blk_cell s0 1; clear s0; go_simp; with_reducible rfl)) (by (simp only [Act.put, List.setIfInBounds_toArray, List.set_cons_zero, List.set_cons_succ]; rfl)) ?_)
            | (refine Quiet.call (args := #[.agg #[.bool true, .int .i64 hold]]) _ _ (by rfl) (by rfl) Try.func24 (by kernel_rfl) rfl (by simp only [List.map_toArray, List.map_cons, List.map_nil]; rfl) (fun w' hC => lock_Locked.calls true hold true _ HD.out) (by (simp only [Act.put, List.setIfInBounds_toArray, List.set_cons_zero, List.set_cons_succ]; rfl)) ?_))
          refine Quiet.done ?_
          intro w6 hbel
          have HBK := Aside0.mk (blk_bel HBK.out (hW2.out ▸ hbel))
          have HB := Aside0.mk (Quiet.Bel.out HB.out hW2 hbel)
          clear hbel hcell hc
          have e1 := HE.out
          go_wp2_with fail
          go_roundg k1
          case measure => omega
          case rel => exact ⟨i, i + 1, true, hold, (by first | rfl | (simp; done) | (simp [*]; done)), (by first | rfl | (simp; done) | (simp [*]; done)), HI2, ⟨by have := HK.out; omega⟩, HBK, HB⟩
        · have HCW := Aside0.mk (show w.cell? (ad.add i.toNat) = some (.bool false) by rw [← hb]; exact hcw)
          rw [hb] at hc
          have hv := HI.out
          have hl := HL.out
          have hi3 := HI3.out
          obtain ⟨v1, v2, v3⟩ := hv
          obtain ⟨y, hy⟩ : ∃ y, y = if x < 1 then 0 else wrap64 (x - 1) := ⟨_, rfl⟩
          have hy2 : y = if hold - (i + 1 - 1 - la) < 0 then 0 else hold - (i + 1 - 1 - la) := by
            rw [hy]
            unfold wrap64
            (repeat' split at *) <;> omega
          have HY := Aside0.mk (show lock_Step.f c x false hold = some (false, y) by rw [hy]; rfl)
          have HI2 := Aside0.mk (show InvH hold la (i + 1) y from ⟨by omega, by omega, hy2⟩)
          obtain ⟨d, hd⟩ : ∃ d, d = decide (wrap64 (i - la) < hold) := ⟨_, rfl⟩
          have HD := Aside0.mk (show lock_Locked.f false y = some d by
            rw [Pure.locked_eq, hd, show wrap64 (i - la) = i - la by unfold wrap64; omega]
            congr 1
            rw [Bool.false_or]
            refine decide_eq_decide.2 ?_
            rw [hy2]
            split <;> omega)
          have r1 : decide (wrap64 (i - la) < hold) = d := hd.symm
          clear hy hy2 hd
          clear v1 v2 v3 hl hb hcw hi3
          go_wp2_with fail
          apply Quiet.tail (S := (fun w' => w'.heap[w1.heap.size]? = some (.cells #[.bool c, .int .i64 x] 38) ∧ w'.cell? (ad.add i.toNat) = some (.bool false))) (n := 7) (hm := by kernel_rfl) (hB := by kernel_rfl) (hz := by kernel_rfl) (hS := fun w' hw => ⟨blk_bel HBK.out hw, Quiet.Bel.cellA hw hc⟩)
          case h =>
            intro W1 hcell
            simp only [List.take_succ_cons, List.take_zero, List.drop_succ_cons, List.drop_zero]
            repeat (first
              | go_big_quiet_skip
              | (go_big_quiet_want; go_big_quiet_op; go_big_quiet_on)
              | (refine Quiet.val _ _ (by rfl) (by (intro w' hC; obtain ⟨s0, s1⟩ := hcell w' hC; have q0 : w'.cell? ⟨w1.heap.size, 0, none⟩ = some (.bool c) := blk_cell s0 0; have q1 : w'.cell? ⟨w1.heap.size, 1, none⟩ = some (.int .i64 x) := blk_cell s0 1; clear s0; go_simp; with_reducible rfl)) (by (simp only [Act.put, List.setIfInBounds_toArray, List.set_cons_zero, List.set_cons_succ]; rfl)) ?_)
              | (refine Quiet.call (args := #[.agg #[.bool c, .int .i64 x], .bool false, .int .i64 hold]) _ _ (by rfl) (by rfl) Try.func22 (by kernel_rfl) rfl (by simp only [List.map_toArray, List.map_cons, List.map_nil]; rfl) (fun w' hC => lock_Step.calls c x false hold false y _ HY.out) (by (simp only [Act.put, List.setIfInBounds_toArray, List.set_cons_zero, List.set_cons_succ]; rfl)) ?_))
            exact Quiet.done rfl
          intro W0 hW0 w' hbel hS
          obtain ⟨s0, s1⟩ := hS
          have q0 : w'.cell? ⟨w1.heap.size, 0, none⟩ = some (.bool c) := blk_cell s0 0
          have q1 : w'.cell? ⟨w1.heap.size, 1, none⟩ = some (.int .i64 x) := blk_cell s0 1
          have f0 := Quiet.frozen_of s0 0
          have f1 := Quiet.frozen_of s0 1
          have hle := H1.out.size
          have BK5 := blk_put (blk_put s0 0 (.bool false) rfl) 1 (.int .i64 y) rfl
          have B5 := Quiet.Bel.set (k := 1) (v := .int .i64 y) (Quiet.Bel.set (k := 0) (v := .bool false) (Quiet.Bel.out HB.out hW0 hbel) hle) hle
          simp only [List.take_succ_cons, List.take_zero, List.drop_succ_cons, List.drop_zero, Act.put, List.setIfInBounds_toArray, List.set_cons_zero, List.set_cons_succ]
          clear hbel hle HBK HB hc s0
          refine store_event rfl rfl rfl (w1 := (w'.setCell ⟨w1.heap.size, 0, none⟩ (.bool false)).setCell ⟨w1.heap.size, 1, none⟩ (.int .i64 y)) (by go_simp) ?_
          intro w5 hw5
          rw [← hw5] at BK5 B5
          clear hw5 q0 q1 f0 f1 s1
          have HBK := Aside0.mk BK5
          have HB := Aside0.mk B5
          clear BK5 B5
          have hc := (HB.out.cell (World.block_lt_of_cell? w _ HCW.out)).trans HCW.out
          have q0 : w5.cell? ⟨w1.heap.size, 0, none⟩ = some (.bool false) := blk_cell HBK.out 0
          have q1 : w5.cell? ⟨w1.heap.size, 1, none⟩ = some (.int .i64 y) := blk_cell HBK.out 1
          go_wp2_with fail
          clear q0 q1
          refine Quiet.start (fun w' => w'.heap[w1.heap.size]? = some (.cells #[.bool false, .int .i64 y] 38) ∧ w'.cell? (ad.add i.toNat) = some (.bool false)) (by kernel_rfl) (by kernel_rfl) (fun w' hw => ⟨blk_bel HBK.out hw, Quiet.Bel.cellA hw hc⟩) (fun W2 hW2 hcell => ?_)
          repeat (first
            | go_big_quiet_skip
            | (go_big_quiet_want; go_big_quiet_op; go_big_quiet_on)
            | (refine Quiet.val _ _ (by rfl) (by (intro w' hC; obtain ⟨s0, s1⟩ := hcell w' hC; have q0 : w'.cell? ⟨w1.heap.size, 0, none⟩ = some (.bool false) := blk_cell s0 0; have q1 : w'.cell? ⟨w1.heap.size, 1, none⟩ = some (.int .i64 y) := blk_cell s0 1; clear s0; go_simp; with_reducible rfl)) (by (simp only [Act.put, List.setIfInBounds_toArray, List.set_cons_zero, List.set_cons_succ]; rfl)) ?_)
            | (refine Quiet.call (args := #[.agg #[.bool false, .int .i64 y]]) _ _ (by rfl) (by rfl) Try.func24 (by kernel_rfl) rfl (by simp only [List.map_toArray, List.map_cons, List.map_nil]; rfl) (fun w' hC => lock_Locked.calls false y d _ HD.out) (by (simp only [Act.put, List.setIfInBounds_toArray, List.set_cons_zero, List.set_cons_succ]; rfl)) ?_))
          refine Quiet.done ?_
          intro w6 hbel
          have HBK := Aside0.mk (blk_bel HBK.out (hW2.out ▸ hbel))
          have HB := Aside0.mk (Quiet.Bel.out HB.out hW2 hbel)
          clear hbel hcell hc
          have e1 := HE.out
          go_wp2_with fail
          go_roundg k1
          case measure => omega
          case rel => exact ⟨la, i + 1, false, y, (by first | rfl | (simp; done) | (simp [*]; done)), (by first | rfl | (simp; done) | (simp [*]; done)), HI2, ⟨by have := HK.out; omega⟩, HBK, HB⟩
end Go.Proofs.Ytllmckdmglacdaa.A
