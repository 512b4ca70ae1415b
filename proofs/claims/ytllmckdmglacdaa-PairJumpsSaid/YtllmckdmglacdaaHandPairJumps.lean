/- The law PairJumps, walked: at any pair and any lies it answers true. -/
import Derived.Test.YtllmckdmglacdaaAx3
import Derived.Test.YtllmckdmglacdaaPurePair
import Derived.Test.YtllmckdmglacdaaXor
import Derived.Test.YtllmckdmglacdaaHas
import Derived.Outline
import Derived.Deep.RegionHeld3
import Derived.Deep.DrawnRows
import Derived.Deep.QuietTactic
import Derived.BigQuiet
import Derived.BigRegion
import Derived.Deep.RegionWith
namespace Go.Proofs.Ytllmckdmglacdaa.A
open Go.RowKit Go.Proofs.YtllmckdmglacdaaW.PrintWords Go.Proofs.YtllmckdmglacdaaW.PrintLast Go.Proofs.YtllmckdmglacdaaW.PrintMore
set_option linter.unusedVariables false
set_option linter.unusedSimpArgs false
attribute [local go_sem] Quiet.bel_all
attribute [local go_sem ↓] Go.wp_at_zero Go.wp_at_succ
theorem small10_k : ∃ k, crossbucklaw10_small.f k = some true := ⟨12, by decide +kernel⟩
theorem blk_bel {W w' : World} {g : Nat} {o : Obj} (h : W.heap[g]? = some o) (hb : Quiet.Bel W w') : w'.heap[g]? = some o := blk_below h hb
set_option maxHeartbeats 40000000 in
set_option maxRecDepth 100000 in
theorem PairJumps.walk (w : World) (lie0 pos0 : Int) (jump0 : Bool) (A0 : Option Addr) (c0 : Nat) (l0 : List Int) (w0 : (Lit.int .i64 lie0).wf = true) (w1 : (Lit.int .i64 pos0).wf = true) (ok : ∀ x ∈ l0, (Lit.int .i64 x).wf = true) (hc0 : l0.length ≤ c0) (hr0 : Kd.C (Kd.int .i64) w A0 l0.length l0) :
    Calls Try.prog 6 #[.agg #[.int .i64 lie0, .int .i64 pos0, .bool jump0], .slice A0 l0.length c0] w fun e w' => e = .returned (.bool true) ∧ Below w.heap.size w w' := by
  have HP := Aside0.mk (bounds_i64 w1)
  have HR0 := Aside0.mk hr0
  have HC0 := Aside0.mk hc0
  clear w0 w1 hr0 hc0 ok
  obtain ⟨ks, hs⟩ := small10_k
  have HS := Aside0.mk hs
  clear hs
  rcases Bool.eq_false_or_eq_true (decide ((l0.length : Int) > 200)) with g1 | g1
  · go_enter Try.func6, Try.ntmps6
    go_wp2_with fail
    refine (crossbucklaw10_small.calls ks true _ HS.out).mono ?_
    rintro e w1 ⟨rfl, hb1⟩
    have H1 := Aside0.mk hb1
    clear hb1
    go_wp2_with fail
    go_ret
    exact ⟨rfl, by repeat (with_reducible first | exact Below.refl _ _ | apply below_alloc | refine below_step ?_ H1.out)⟩
  have HL := Aside0.mk (show (l0.length : Int) ≤ 200 by simp only [decide_eq_false_iff_not] at g1; omega)
  go_enter Try.func6, Try.ntmps6
  go_wp2_with fail
  refine (crossbucklaw10_small.calls ks true _ HS.out).mono ?_
  rintro e w1 ⟨rfl, hb1⟩
  have HBK := Aside0.mk (show w1.heap[w.heap.size]? = some (.cells #[.int .i64 lie0, .int .i64 pos0, .bool jump0] 23) from blk_below (by show (w.heap.push _)[w.heap.size]? = _; simp) hb1)
  have HB := Aside0.mk (show Below w.heap.size w w1 from below_step (by repeat (with_reducible first | exact Below.refl _ _ | apply below_alloc)) hb1)
  clear hb1
  go_wp2_with fail
  clear g1
  go_loopg [6, 7, 8] (l0.length + 1) (fun kq v6 v7 v8 w' => ∃ (i lie pos : Int) (jump : Bool), v6 = .int .i64 i ∧ Aside0 (0 ≤ i ∧ (-9223372036854775808 ≤ pos ∧ pos ≤ 9223372036854775807)) ∧ Aside0 ((l0.length : Int) - i < kq ∧ kq ≤ l0.length + 1) ∧ Aside0 (w'.heap[w.heap.size]? = some (.cells #[.int .i64 lie, .int .i64 pos, .bool jump] 23)) ∧ Aside0 (Below w.heap.size w w'))
  case atStart => exact ⟨0, lie0, pos0, jump0, rfl, ⟨by omega, HP.out⟩, ⟨by omega⟩, HBK, HB⟩
  case round =>
    clear HBK HB
    obtain ⟨i, lie, pos, jump, rfl, HI, HK, HBK, HB⟩ := hrel
    have hi0 := HI.out.1
    by_cases c2 : i < (l0.length : Int)
    case neg =>
      have c2b : decide (i < (l0.length : Int)) = false := decide_eq_false c2
      clear c2 hi0
      go_wp2
      go_ret
      exact ⟨rfl, HB.out⟩
    case pos =>
      obtain ⟨ad, e, hc⟩ := Kd.at_int HR0.out i hi0 c2
      cases e
      have HCW := Aside0.mk hc
      replace hc := (HB.out.cell (World.block_lt_of_cell? w _ hc)).trans hc
      have p1 := eq_true hi0
      have p2 := eq_true c2
      cases gk with
      | zero => exact absurd HK.out (by omega)
      | succ k1 =>
        have HE := Aside0.mk (show wrap64 (i + 1) = i + 1 by have := HL.out; unfold wrap64; omega)
        have hpb := HI.out.2
        have hw : (gray4 (rd l0 i) - gray4 lie) % 4 = 0 ∨ (gray4 (rd l0 i) - gray4 lie) % 4 = 1 ∨ (gray4 (rd l0 i) - gray4 lie) % 4 = 2 ∨ (gray4 (rd l0 i) - gray4 lie) % 4 = 3 := by omega
        clear hi0 c2
        rcases hw with hw | hw | hw | hw
        · cases jump
          · obtain ⟨y, hy⟩ : ∃ y, y = posN ((gray4 (rd l0 i) - gray4 lie) % 4) pos := ⟨_, rfl⟩
            rw [hw] at hy
            have hy1 : y = pos + (0) ∧ (-9223372036854775808 ≤ y ∧ y ≤ 9223372036854775807) := by
              rw [hy]
              unfold posN wrap64
              (repeat' split) <;> omega
            have HF := Aside0.mk (show pair_Step.f lie pos false (rd l0 i) = some (rd l0 i % 4, y, false) by simp only [pair_Step.f, hw, hy]; rfl)
            have HY := Aside0.mk hy1.2
            have t1 : (y == pos) = true := by simp; omega
            have t1b : (y != pos) = false := by simp; omega
            have t1c : decide (y = pos) = true := by simp; omega
            have t2 : wrap64 (y - pos) = 0 := by unfold wrap64; omega
            have t3 := Arith.and3 (rd l0 i)
            obtain ⟨m, hm⟩ : ∃ m, m = bits .and .i64 (bits .xor .i64 lie (rd l0 i)) 3 := ⟨_, rfl⟩
            have t4 : (m == 3) = false := by
              rw [hm, Arith.both3]
              rcases gray4_cases lie with ⟨g, u⟩ | ⟨g, u⟩ | ⟨g, u⟩ | ⟨g, u⟩ <;> rcases gray4_cases (rd l0 i) with ⟨g', u'⟩ | ⟨g', u'⟩ | ⟨g', u'⟩ | ⟨g', u'⟩ <;> rw [u, u'] <;> first | decide | (exfalso; rw [g, g'] at hw; revert hw; decide)
            replace hm := hm.symm
            clear hy hy1 hw
            go_wp2_with fail
            apply Quiet.tailA (S := fun w' => w'.heap[w.heap.size]? = some (.cells #[.int .i64 lie, .int .i64 pos, .bool false] 23) ∧ w'.cell? (ad.add i.toNat) = some (.int .i64 (rd l0 i))) (n := 7) (iA := 6) (d := 7) (ob := .cells #[.int .i64 0, .int .i64 0, .bool false] 23) (hm := by kernel_rfl) (hB := by kernel_rfl) (hiA := by omega) (hz := by kernel_rfl) (hS := fun w' hw => ⟨blk_bel HBK.out hw, Quiet.Bel.cellA hw hc⟩)
            case hA =>
              intro oA ho
              obtain rfl := Option.some.inj ho
              exact ⟨rfl, fun ρ w => by kernel_rfl⟩
            case h =>
              intro W1 hcell
              simp only [List.take_succ_cons, List.take_zero, List.eraseIdx_cons_succ, List.eraseIdx_cons_zero, List.drop_succ_cons, List.drop_zero]
              repeat (first
                | go_big_quiet_skip
                | (go_big_quiet_want; go_big_quiet_op; go_big_quiet_on)
                | (refine Quiet.val _ _ (by rfl) (by (intro w' hC; obtain ⟨s0, s1⟩ := hcell w' hC; have q0 : w'.cell? ⟨w.heap.size, 0, none⟩ = some (.int .i64 lie) := blk_cell s0 0; have q1 : w'.cell? ⟨w.heap.size, 1, none⟩ = some (.int .i64 pos) := blk_cell s0 1; have q2 : w'.cell? ⟨w.heap.size, 2, none⟩ = some (.bool false) := blk_cell s0 2; clear s0; go_simp; with_reducible rfl)) (by (simp only [Act.put, List.setIfInBounds_toArray, List.set_cons_zero, List.set_cons_succ]; rfl)) ?_)
                | (refine Quiet.call (args := #[.agg #[.int .i64 lie, .int .i64 pos, .bool false], .int .i64 (rd l0 i)]) _ _ (by rfl) (by rfl) Try.func15 (by kernel_rfl) rfl (by simp only [List.map_toArray, List.map_cons, List.map_nil]; rfl) (fun w' hC => pair_Step.calls lie pos false (rd l0 i) (rd l0 i % 4) y false _ HF.out) (by (simp only [Act.put, List.setIfInBounds_toArray, List.set_cons_zero, List.set_cons_succ]; rfl)) ?_))
              exact Quiet.done rfl
            intro W0 hW0 b w' hbel hS hb hob
            obtain ⟨s0, s1⟩ := hS
            have hle := hW0.le HB.out hb
            have hlt : w.heap.size < b := Nat.lt_of_lt_of_le (blk_lt HBK.out) (hW0.out ▸ hb)
            have z0 : w'.cell? ⟨b, 0, none⟩ = some (.int .i64 0) := Quiet.cell_of hob 0
            have f0 := Quiet.frozen_of hob 0
            have z1 : w'.cell? ⟨b, 1, none⟩ = some (.int .i64 0) := Quiet.cell_of hob 1
            have f1 := Quiet.frozen_of hob 1
            have z2 : w'.cell? ⟨b, 2, none⟩ = some (.bool false) := Quiet.cell_of hob 2
            have f2 := Quiet.frozen_of hob 2
            have QK := blk_put (blk_put (blk_put hob 0 (.int .i64 (rd l0 i % 4)) rfl) 1 (.int .i64 y) rfl) 2 (.bool false) rfl
            have BK5 := (Below.heap_setCell ((w'.setCell ⟨b, 0, none⟩ (.int .i64 (rd l0 i % 4))).setCell ⟨b, 1, none⟩ (.int .i64 y)) ⟨b, 2, none⟩ (.bool false) (w.heap.size) (Nat.ne_of_lt hlt)).trans ((Below.heap_setCell (w'.setCell ⟨b, 0, none⟩ (.int .i64 (rd l0 i % 4))) ⟨b, 1, none⟩ (.int .i64 y) (w.heap.size) (Nat.ne_of_lt hlt)).trans ((Below.heap_setCell w' ⟨b, 0, none⟩ (.int .i64 (rd l0 i % 4)) (w.heap.size) (Nat.ne_of_lt hlt)).trans s0))
            have B5 := Quiet.Bel.set (k := 2) (v := .bool false) (Quiet.Bel.set (k := 1) (v := .int .i64 y) (Quiet.Bel.set (k := 0) (v := .int .i64 (rd l0 i % 4)) (Quiet.Bel.out HB.out hW0 hbel) hle) hle) hle
            have HLE := Aside0.mk hle
            have HNE := Aside0.mk hlt
            simp only [List.take_succ_cons, List.take_zero, List.eraseIdx_cons_succ, List.eraseIdx_cons_zero, List.drop_succ_cons, List.drop_zero, Act.put, List.setIfInBounds_toArray, List.set_cons_zero, List.set_cons_succ]
            clear hbel hle hlt HBK HB hc s0 hb hob
            refine store_event rfl rfl rfl (w1 := ((w'.setCell ⟨b, 0, none⟩ (.int .i64 (rd l0 i % 4))).setCell ⟨b, 1, none⟩ (.int .i64 y)).setCell ⟨b, 2, none⟩ (.bool false)) (by go_simp) ?_
            intro w5 hw5
            rw [← hw5] at QK BK5 B5
            clear hw5 z0 z1 z2 f0 f1 f2 s1
            have HBK := Aside0.mk BK5
            have HB := Aside0.mk B5
            have HQ := Aside0.mk QK
            clear BK5 B5 QK
            have hc := (HB.out.cell (World.block_lt_of_cell? w _ HCW.out)).trans HCW.out
            go_wp2_with fail
            refine Quiet.start (fun w' => w'.heap[w.heap.size]? = some (.cells #[.int .i64 lie, .int .i64 pos, .bool false] 23) ∧ w'.heap[b]? = some (.cells #[.int .i64 (rd l0 i % 4), .int .i64 y, .bool false] 23) ∧ w'.cell? (ad.add i.toNat) = some (.int .i64 (rd l0 i))) (by kernel_rfl) (by kernel_rfl) (fun w' hw => ⟨blk_bel HBK.out hw, blk_bel HQ.out hw, Quiet.Bel.cellA hw hc⟩) (fun W6 hW6 hcell => ?_)
            repeat (first
              | go_big_quiet_skip
              | (go_big_quiet_want; go_big_quiet_op; go_big_quiet_on)
              | (refine Quiet.val _ _ (by rfl) (by (intro w' hC; obtain ⟨s0, s2, s1⟩ := hcell w' hC; have q0 : w'.cell? ⟨w.heap.size, 0, none⟩ = some (.int .i64 lie) := blk_cell s0 0; have q1 : w'.cell? ⟨w.heap.size, 1, none⟩ = some (.int .i64 pos) := blk_cell s0 1; have q2 : w'.cell? ⟨w.heap.size, 2, none⟩ = some (.bool false) := blk_cell s0 2; have p0 : w'.cell? ⟨b, 0, none⟩ = some (.int .i64 (rd l0 i % 4)) := blk_cell s2 0; have p1 : w'.cell? ⟨b, 1, none⟩ = some (.int .i64 y) := blk_cell s2 1; have p2 : w'.cell? ⟨b, 2, none⟩ = some (.bool false) := blk_cell s2 2; clear s0 s2; go_simp; with_reducible rfl)) (by (simp only [Act.put, List.setIfInBounds_toArray, List.set_cons_zero, List.set_cons_succ]; rfl)) ?_))
            refine Quiet.done ?_
            intro w6 hbel
            have HBK := Aside0.mk (blk_bel HBK.out (hW6.out ▸ hbel))
            have HQ := Aside0.mk (blk_bel HQ.out (hW6.out ▸ hbel))
            have HB := Aside0.mk (Quiet.Bel.out HB.out hW6 hbel)
            clear hbel hcell hc
            have hc := (HB.out.cell (World.block_lt_of_cell? w _ HCW.out)).trans HCW.out
            go_wp2_with fail
            refine Quiet.start (fun w' => w'.heap[w.heap.size]? = some (.cells #[.int .i64 lie, .int .i64 pos, .bool false] 23) ∧ w'.heap[b]? = some (.cells #[.int .i64 (rd l0 i % 4), .int .i64 y, .bool false] 23) ∧ w'.cell? (ad.add i.toNat) = some (.int .i64 (rd l0 i))) (by kernel_rfl) (by kernel_rfl) (fun w' hw => ⟨blk_bel HBK.out hw, blk_bel HQ.out hw, Quiet.Bel.cellA hw hc⟩) (fun W7 hW7 hcell => ?_)
            repeat (first
              | go_big_quiet_skip
              | (go_big_quiet_want; go_big_quiet_op; go_big_quiet_on)
              | (refine Quiet.val _ _ (by rfl) (by (intro w' hC; obtain ⟨s0, s2, s1⟩ := hcell w' hC; have q0 : w'.cell? ⟨w.heap.size, 0, none⟩ = some (.int .i64 lie) := blk_cell s0 0; have q1 : w'.cell? ⟨w.heap.size, 1, none⟩ = some (.int .i64 pos) := blk_cell s0 1; have q2 : w'.cell? ⟨w.heap.size, 2, none⟩ = some (.bool false) := blk_cell s0 2; have p0 : w'.cell? ⟨b, 0, none⟩ = some (.int .i64 (rd l0 i % 4)) := blk_cell s2 0; have p1 : w'.cell? ⟨b, 1, none⟩ = some (.int .i64 y) := blk_cell s2 1; have p2 : w'.cell? ⟨b, 2, none⟩ = some (.bool false) := blk_cell s2 2; clear s0 s2; go_simp; with_reducible rfl)) (by (simp only [Act.put, List.setIfInBounds_toArray, List.set_cons_zero, List.set_cons_succ]; rfl)) ?_))
            refine Quiet.done ?_
            intro w7 hbel
            have HBK := Aside0.mk (blk_bel HBK.out (hW7.out ▸ hbel))
            have HQ := Aside0.mk (blk_bel HQ.out (hW7.out ▸ hbel))
            have HB := Aside0.mk (Quiet.Bel.out HB.out hW7 hbel)
            clear hbel hcell hc
            have hc := (HB.out.cell (World.block_lt_of_cell? w _ HCW.out)).trans HCW.out
            have q0 : w7.cell? ⟨w.heap.size, 0, none⟩ = some (.int .i64 lie) := blk_cell HBK.out 0
            have q1 : w7.cell? ⟨w.heap.size, 1, none⟩ = some (.int .i64 pos) := blk_cell HBK.out 1
            have q2 : w7.cell? ⟨w.heap.size, 2, none⟩ = some (.bool false) := blk_cell HBK.out 2
            have p0 : w7.cell? ⟨b, 0, none⟩ = some (.int .i64 (rd l0 i % 4)) := blk_cell HQ.out 0
            have p1 : w7.cell? ⟨b, 1, none⟩ = some (.int .i64 y) := blk_cell HQ.out 1
            have p2 : w7.cell? ⟨b, 2, none⟩ = some (.bool false) := blk_cell HQ.out 2
            have f0 := Quiet.frozen_of HBK.out 0
            have f1 := Quiet.frozen_of HBK.out 1
            have f2 := Quiet.frozen_of HBK.out 2
            have e1 := HE.out
            have hne := Nat.ne_of_lt HNE.out
            go_wp2_with fail
            go_roundg k1
            case measure => omega
            case rel => exact ⟨i + 1, rd l0 i % 4, y, false, (by first | rfl | (simp; done) | (simp [*]; done)), ⟨by have := HI.out; exact ⟨by omega, HY.out⟩⟩, ⟨by have := HK.out; omega⟩, ⟨blk_put (blk_put (blk_put HBK.out 0 _ rfl) 1 _ rfl) 2 _ rfl⟩, ⟨by repeat (first | (with_reducible exact HB.out) | (with_reducible refine below_set ?_ (Nat.le_refl _)))⟩⟩
          · obtain ⟨y, hy⟩ : ∃ y, y = posN ((gray4 (rd l0 i) - gray4 lie) % 4) pos := ⟨_, rfl⟩
            rw [hw] at hy
            have hy1 : y = pos + (0) ∧ (-9223372036854775808 ≤ y ∧ y ≤ 9223372036854775807) := by
              rw [hy]
              unfold posN wrap64
              (repeat' split) <;> omega
            have HF := Aside0.mk (show pair_Step.f lie pos true (rd l0 i) = some (rd l0 i % 4, y, true) by simp only [pair_Step.f, hw, hy]; rfl)
            have HY := Aside0.mk hy1.2
            have t1 : (y == pos) = true := by simp; omega
            have t1b : (y != pos) = false := by simp; omega
            have t1c : decide (y = pos) = true := by simp; omega
            have t2 : wrap64 (y - pos) = 0 := by unfold wrap64; omega
            have t3 := Arith.and3 (rd l0 i)
            obtain ⟨m, hm⟩ : ∃ m, m = bits .and .i64 (bits .xor .i64 lie (rd l0 i)) 3 := ⟨_, rfl⟩
            have t4 : (m == 3) = false := by
              rw [hm, Arith.both3]
              rcases gray4_cases lie with ⟨g, u⟩ | ⟨g, u⟩ | ⟨g, u⟩ | ⟨g, u⟩ <;> rcases gray4_cases (rd l0 i) with ⟨g', u'⟩ | ⟨g', u'⟩ | ⟨g', u'⟩ | ⟨g', u'⟩ <;> rw [u, u'] <;> first | decide | (exfalso; rw [g, g'] at hw; revert hw; decide)
            replace hm := hm.symm
            clear hy hy1 hw
            go_wp2_with fail
            apply Quiet.tailA (S := fun w' => w'.heap[w.heap.size]? = some (.cells #[.int .i64 lie, .int .i64 pos, .bool true] 23) ∧ w'.cell? (ad.add i.toNat) = some (.int .i64 (rd l0 i))) (n := 7) (iA := 6) (d := 7) (ob := .cells #[.int .i64 0, .int .i64 0, .bool false] 23) (hm := by kernel_rfl) (hB := by kernel_rfl) (hiA := by omega) (hz := by kernel_rfl) (hS := fun w' hw => ⟨blk_bel HBK.out hw, Quiet.Bel.cellA hw hc⟩)
            case hA =>
              intro oA ho
              obtain rfl := Option.some.inj ho
              exact ⟨rfl, fun ρ w => by kernel_rfl⟩
            case h =>
              intro W1 hcell
              simp only [List.take_succ_cons, List.take_zero, List.eraseIdx_cons_succ, List.eraseIdx_cons_zero, List.drop_succ_cons, List.drop_zero]
              repeat (first
                | go_big_quiet_skip
                | (go_big_quiet_want; go_big_quiet_op; go_big_quiet_on)
                | (refine Quiet.val _ _ (by rfl) (by (intro w' hC; obtain ⟨s0, s1⟩ := hcell w' hC; have q0 : w'.cell? ⟨w.heap.size, 0, none⟩ = some (.int .i64 lie) := blk_cell s0 0; have q1 : w'.cell? ⟨w.heap.size, 1, none⟩ = some (.int .i64 pos) := blk_cell s0 1; have q2 : w'.cell? ⟨w.heap.size, 2, none⟩ = some (.bool true) := blk_cell s0 2; clear s0; go_simp; with_reducible rfl)) (by (simp only [Act.put, List.setIfInBounds_toArray, List.set_cons_zero, List.set_cons_succ]; rfl)) ?_)
                | (refine Quiet.call (args := #[.agg #[.int .i64 lie, .int .i64 pos, .bool true], .int .i64 (rd l0 i)]) _ _ (by rfl) (by rfl) Try.func15 (by kernel_rfl) rfl (by simp only [List.map_toArray, List.map_cons, List.map_nil]; rfl) (fun w' hC => pair_Step.calls lie pos true (rd l0 i) (rd l0 i % 4) y true _ HF.out) (by (simp only [Act.put, List.setIfInBounds_toArray, List.set_cons_zero, List.set_cons_succ]; rfl)) ?_))
              exact Quiet.done rfl
            intro W0 hW0 b w' hbel hS hb hob
            obtain ⟨s0, s1⟩ := hS
            have hle := hW0.le HB.out hb
            have hlt : w.heap.size < b := Nat.lt_of_lt_of_le (blk_lt HBK.out) (hW0.out ▸ hb)
            have z0 : w'.cell? ⟨b, 0, none⟩ = some (.int .i64 0) := Quiet.cell_of hob 0
            have f0 := Quiet.frozen_of hob 0
            have z1 : w'.cell? ⟨b, 1, none⟩ = some (.int .i64 0) := Quiet.cell_of hob 1
            have f1 := Quiet.frozen_of hob 1
            have z2 : w'.cell? ⟨b, 2, none⟩ = some (.bool false) := Quiet.cell_of hob 2
            have f2 := Quiet.frozen_of hob 2
            have QK := blk_put (blk_put (blk_put hob 0 (.int .i64 (rd l0 i % 4)) rfl) 1 (.int .i64 y) rfl) 2 (.bool true) rfl
            have BK5 := (Below.heap_setCell ((w'.setCell ⟨b, 0, none⟩ (.int .i64 (rd l0 i % 4))).setCell ⟨b, 1, none⟩ (.int .i64 y)) ⟨b, 2, none⟩ (.bool true) (w.heap.size) (Nat.ne_of_lt hlt)).trans ((Below.heap_setCell (w'.setCell ⟨b, 0, none⟩ (.int .i64 (rd l0 i % 4))) ⟨b, 1, none⟩ (.int .i64 y) (w.heap.size) (Nat.ne_of_lt hlt)).trans ((Below.heap_setCell w' ⟨b, 0, none⟩ (.int .i64 (rd l0 i % 4)) (w.heap.size) (Nat.ne_of_lt hlt)).trans s0))
            have B5 := Quiet.Bel.set (k := 2) (v := .bool true) (Quiet.Bel.set (k := 1) (v := .int .i64 y) (Quiet.Bel.set (k := 0) (v := .int .i64 (rd l0 i % 4)) (Quiet.Bel.out HB.out hW0 hbel) hle) hle) hle
            have HLE := Aside0.mk hle
            have HNE := Aside0.mk hlt
            simp only [List.take_succ_cons, List.take_zero, List.eraseIdx_cons_succ, List.eraseIdx_cons_zero, List.drop_succ_cons, List.drop_zero, Act.put, List.setIfInBounds_toArray, List.set_cons_zero, List.set_cons_succ]
            clear hbel hle hlt HBK HB hc s0 hb hob
            refine store_event rfl rfl rfl (w1 := ((w'.setCell ⟨b, 0, none⟩ (.int .i64 (rd l0 i % 4))).setCell ⟨b, 1, none⟩ (.int .i64 y)).setCell ⟨b, 2, none⟩ (.bool true)) (by go_simp) ?_
            intro w5 hw5
            rw [← hw5] at QK BK5 B5
            clear hw5 z0 z1 z2 f0 f1 f2 s1
            have HBK := Aside0.mk BK5
            have HB := Aside0.mk B5
            have HQ := Aside0.mk QK
            clear BK5 B5 QK
            have hc := (HB.out.cell (World.block_lt_of_cell? w _ HCW.out)).trans HCW.out
            go_wp2_with fail
            refine Quiet.start (fun w' => w'.heap[w.heap.size]? = some (.cells #[.int .i64 lie, .int .i64 pos, .bool true] 23) ∧ w'.heap[b]? = some (.cells #[.int .i64 (rd l0 i % 4), .int .i64 y, .bool true] 23) ∧ w'.cell? (ad.add i.toNat) = some (.int .i64 (rd l0 i))) (by kernel_rfl) (by kernel_rfl) (fun w' hw => ⟨blk_bel HBK.out hw, blk_bel HQ.out hw, Quiet.Bel.cellA hw hc⟩) (fun W6 hW6 hcell => ?_)
            repeat (first
              | go_big_quiet_skip
              | (go_big_quiet_want; go_big_quiet_op; go_big_quiet_on)
              | (refine Quiet.val _ _ (by rfl) (by (intro w' hC; obtain ⟨s0, s2, s1⟩ := hcell w' hC; have q0 : w'.cell? ⟨w.heap.size, 0, none⟩ = some (.int .i64 lie) := blk_cell s0 0; have q1 : w'.cell? ⟨w.heap.size, 1, none⟩ = some (.int .i64 pos) := blk_cell s0 1; have q2 : w'.cell? ⟨w.heap.size, 2, none⟩ = some (.bool true) := blk_cell s0 2; have p0 : w'.cell? ⟨b, 0, none⟩ = some (.int .i64 (rd l0 i % 4)) := blk_cell s2 0; have p1 : w'.cell? ⟨b, 1, none⟩ = some (.int .i64 y) := blk_cell s2 1; have p2 : w'.cell? ⟨b, 2, none⟩ = some (.bool true) := blk_cell s2 2; clear s0 s2; go_simp; with_reducible rfl)) (by (simp only [Act.put, List.setIfInBounds_toArray, List.set_cons_zero, List.set_cons_succ]; rfl)) ?_))
            refine Quiet.done ?_
            intro w6 hbel
            have HBK := Aside0.mk (blk_bel HBK.out (hW6.out ▸ hbel))
            have HQ := Aside0.mk (blk_bel HQ.out (hW6.out ▸ hbel))
            have HB := Aside0.mk (Quiet.Bel.out HB.out hW6 hbel)
            clear hbel hcell hc
            have hc := (HB.out.cell (World.block_lt_of_cell? w _ HCW.out)).trans HCW.out
            go_wp2_with fail
            refine Quiet.start (fun w' => w'.heap[w.heap.size]? = some (.cells #[.int .i64 lie, .int .i64 pos, .bool true] 23) ∧ w'.heap[b]? = some (.cells #[.int .i64 (rd l0 i % 4), .int .i64 y, .bool true] 23) ∧ w'.cell? (ad.add i.toNat) = some (.int .i64 (rd l0 i))) (by kernel_rfl) (by kernel_rfl) (fun w' hw => ⟨blk_bel HBK.out hw, blk_bel HQ.out hw, Quiet.Bel.cellA hw hc⟩) (fun W7 hW7 hcell => ?_)
            repeat (first
              | go_big_quiet_skip
              | (go_big_quiet_want; go_big_quiet_op; go_big_quiet_on)
              | (refine Quiet.val _ _ (by rfl) (by (intro w' hC; obtain ⟨s0, s2, s1⟩ := hcell w' hC; have q0 : w'.cell? ⟨w.heap.size, 0, none⟩ = some (.int .i64 lie) := blk_cell s0 0; have q1 : w'.cell? ⟨w.heap.size, 1, none⟩ = some (.int .i64 pos) := blk_cell s0 1; have q2 : w'.cell? ⟨w.heap.size, 2, none⟩ = some (.bool true) := blk_cell s0 2; have p0 : w'.cell? ⟨b, 0, none⟩ = some (.int .i64 (rd l0 i % 4)) := blk_cell s2 0; have p1 : w'.cell? ⟨b, 1, none⟩ = some (.int .i64 y) := blk_cell s2 1; have p2 : w'.cell? ⟨b, 2, none⟩ = some (.bool true) := blk_cell s2 2; clear s0 s2; go_simp; with_reducible rfl)) (by (simp only [Act.put, List.setIfInBounds_toArray, List.set_cons_zero, List.set_cons_succ]; rfl)) ?_))
            refine Quiet.done ?_
            intro w7 hbel
            have HBK := Aside0.mk (blk_bel HBK.out (hW7.out ▸ hbel))
            have HQ := Aside0.mk (blk_bel HQ.out (hW7.out ▸ hbel))
            have HB := Aside0.mk (Quiet.Bel.out HB.out hW7 hbel)
            clear hbel hcell hc
            have hc := (HB.out.cell (World.block_lt_of_cell? w _ HCW.out)).trans HCW.out
            have q0 : w7.cell? ⟨w.heap.size, 0, none⟩ = some (.int .i64 lie) := blk_cell HBK.out 0
            have q1 : w7.cell? ⟨w.heap.size, 1, none⟩ = some (.int .i64 pos) := blk_cell HBK.out 1
            have q2 : w7.cell? ⟨w.heap.size, 2, none⟩ = some (.bool true) := blk_cell HBK.out 2
            have p0 : w7.cell? ⟨b, 0, none⟩ = some (.int .i64 (rd l0 i % 4)) := blk_cell HQ.out 0
            have p1 : w7.cell? ⟨b, 1, none⟩ = some (.int .i64 y) := blk_cell HQ.out 1
            have p2 : w7.cell? ⟨b, 2, none⟩ = some (.bool true) := blk_cell HQ.out 2
            have f0 := Quiet.frozen_of HBK.out 0
            have f1 := Quiet.frozen_of HBK.out 1
            have f2 := Quiet.frozen_of HBK.out 2
            have e1 := HE.out
            have hne := Nat.ne_of_lt HNE.out
            go_wp2_with fail
            go_roundg k1
            case measure => omega
            case rel => exact ⟨i + 1, rd l0 i % 4, y, true, (by first | rfl | (simp; done) | (simp [*]; done)), ⟨by have := HI.out; exact ⟨by omega, HY.out⟩⟩, ⟨by have := HK.out; omega⟩, ⟨blk_put (blk_put (blk_put HBK.out 0 _ rfl) 1 _ rfl) 2 _ rfl⟩, ⟨by repeat (first | (with_reducible exact HB.out) | (with_reducible refine below_set ?_ (Nat.le_refl _)))⟩⟩
        · by_cases hp : pos < 9223372036854775807
          · cases jump
            · obtain ⟨y, hy⟩ : ∃ y, y = posN ((gray4 (rd l0 i) - gray4 lie) % 4) pos := ⟨_, rfl⟩
              rw [hw] at hy
              have hy1 : y = pos + (1) ∧ (-9223372036854775808 ≤ y ∧ y ≤ 9223372036854775807) := by
                rw [hy]
                unfold posN wrap64
                (repeat' split) <;> omega
              have HF := Aside0.mk (show pair_Step.f lie pos false (rd l0 i) = some (rd l0 i % 4, y, false) by simp only [pair_Step.f, hw, hy]; rfl)
              have HY := Aside0.mk hy1.2
              have t1 : (y == pos) = false := by simp; omega
              have t1b : (y != pos) = true := by simp; omega
              have t1c : decide (y = pos) = false := by simp; omega
              have t2 : wrap64 (y - pos) = 1 := by unfold wrap64; omega
              have t3 := Arith.and3 (rd l0 i)
              obtain ⟨m, hm⟩ : ∃ m, m = bits .and .i64 (bits .xor .i64 lie (rd l0 i)) 3 := ⟨_, rfl⟩
              have t4 : (m == 3) = false := by
                rw [hm, Arith.both3]
                rcases gray4_cases lie with ⟨g, u⟩ | ⟨g, u⟩ | ⟨g, u⟩ | ⟨g, u⟩ <;> rcases gray4_cases (rd l0 i) with ⟨g', u'⟩ | ⟨g', u'⟩ | ⟨g', u'⟩ | ⟨g', u'⟩ <;> rw [u, u'] <;> first | decide | (exfalso; rw [g, g'] at hw; revert hw; decide)
              replace hm := hm.symm
              clear hy hy1 hw
              go_wp2_with fail
              apply Quiet.tailA (S := fun w' => w'.heap[w.heap.size]? = some (.cells #[.int .i64 lie, .int .i64 pos, .bool false] 23) ∧ w'.cell? (ad.add i.toNat) = some (.int .i64 (rd l0 i))) (n := 7) (iA := 6) (d := 7) (ob := .cells #[.int .i64 0, .int .i64 0, .bool false] 23) (hm := by kernel_rfl) (hB := by kernel_rfl) (hiA := by omega) (hz := by kernel_rfl) (hS := fun w' hw => ⟨blk_bel HBK.out hw, Quiet.Bel.cellA hw hc⟩)
              case hA =>
                intro oA ho
                obtain rfl := Option.some.inj ho
                exact ⟨rfl, fun ρ w => by kernel_rfl⟩
              case h =>
                intro W1 hcell
                simp only [List.take_succ_cons, List.take_zero, List.eraseIdx_cons_succ, List.eraseIdx_cons_zero, List.drop_succ_cons, List.drop_zero]
                repeat (first
                  | go_big_quiet_skip
                  | (go_big_quiet_want; go_big_quiet_op; go_big_quiet_on)
                  | (refine Quiet.val _ _ (by rfl) (by (intro w' hC; obtain ⟨s0, s1⟩ := hcell w' hC; have q0 : w'.cell? ⟨w.heap.size, 0, none⟩ = some (.int .i64 lie) := blk_cell s0 0; have q1 : w'.cell? ⟨w.heap.size, 1, none⟩ = some (.int .i64 pos) := blk_cell s0 1; have q2 : w'.cell? ⟨w.heap.size, 2, none⟩ = some (.bool false) := blk_cell s0 2; clear s0; go_simp; with_reducible rfl)) (by (simp only [Act.put, List.setIfInBounds_toArray, List.set_cons_zero, List.set_cons_succ]; rfl)) ?_)
                  | (refine Quiet.call (args := #[.agg #[.int .i64 lie, .int .i64 pos, .bool false], .int .i64 (rd l0 i)]) _ _ (by rfl) (by rfl) Try.func15 (by kernel_rfl) rfl (by simp only [List.map_toArray, List.map_cons, List.map_nil]; rfl) (fun w' hC => pair_Step.calls lie pos false (rd l0 i) (rd l0 i % 4) y false _ HF.out) (by (simp only [Act.put, List.setIfInBounds_toArray, List.set_cons_zero, List.set_cons_succ]; rfl)) ?_))
                exact Quiet.done rfl
              intro W0 hW0 b w' hbel hS hb hob
              obtain ⟨s0, s1⟩ := hS
              have hle := hW0.le HB.out hb
              have hlt : w.heap.size < b := Nat.lt_of_lt_of_le (blk_lt HBK.out) (hW0.out ▸ hb)
              have z0 : w'.cell? ⟨b, 0, none⟩ = some (.int .i64 0) := Quiet.cell_of hob 0
              have f0 := Quiet.frozen_of hob 0
              have z1 : w'.cell? ⟨b, 1, none⟩ = some (.int .i64 0) := Quiet.cell_of hob 1
              have f1 := Quiet.frozen_of hob 1
              have z2 : w'.cell? ⟨b, 2, none⟩ = some (.bool false) := Quiet.cell_of hob 2
              have f2 := Quiet.frozen_of hob 2
              have QK := blk_put (blk_put (blk_put hob 0 (.int .i64 (rd l0 i % 4)) rfl) 1 (.int .i64 y) rfl) 2 (.bool false) rfl
              have BK5 := (Below.heap_setCell ((w'.setCell ⟨b, 0, none⟩ (.int .i64 (rd l0 i % 4))).setCell ⟨b, 1, none⟩ (.int .i64 y)) ⟨b, 2, none⟩ (.bool false) (w.heap.size) (Nat.ne_of_lt hlt)).trans ((Below.heap_setCell (w'.setCell ⟨b, 0, none⟩ (.int .i64 (rd l0 i % 4))) ⟨b, 1, none⟩ (.int .i64 y) (w.heap.size) (Nat.ne_of_lt hlt)).trans ((Below.heap_setCell w' ⟨b, 0, none⟩ (.int .i64 (rd l0 i % 4)) (w.heap.size) (Nat.ne_of_lt hlt)).trans s0))
              have B5 := Quiet.Bel.set (k := 2) (v := .bool false) (Quiet.Bel.set (k := 1) (v := .int .i64 y) (Quiet.Bel.set (k := 0) (v := .int .i64 (rd l0 i % 4)) (Quiet.Bel.out HB.out hW0 hbel) hle) hle) hle
              have HLE := Aside0.mk hle
              have HNE := Aside0.mk hlt
              simp only [List.take_succ_cons, List.take_zero, List.eraseIdx_cons_succ, List.eraseIdx_cons_zero, List.drop_succ_cons, List.drop_zero, Act.put, List.setIfInBounds_toArray, List.set_cons_zero, List.set_cons_succ]
              clear hbel hle hlt HBK HB hc s0 hb hob
              refine store_event rfl rfl rfl (w1 := ((w'.setCell ⟨b, 0, none⟩ (.int .i64 (rd l0 i % 4))).setCell ⟨b, 1, none⟩ (.int .i64 y)).setCell ⟨b, 2, none⟩ (.bool false)) (by go_simp) ?_
              intro w5 hw5
              rw [← hw5] at QK BK5 B5
              clear hw5 z0 z1 z2 f0 f1 f2 s1
              have HBK := Aside0.mk BK5
              have HB := Aside0.mk B5
              have HQ := Aside0.mk QK
              clear BK5 B5 QK
              have hc := (HB.out.cell (World.block_lt_of_cell? w _ HCW.out)).trans HCW.out
              go_wp2_with fail
              refine Quiet.start (fun w' => w'.heap[w.heap.size]? = some (.cells #[.int .i64 lie, .int .i64 pos, .bool false] 23) ∧ w'.heap[b]? = some (.cells #[.int .i64 (rd l0 i % 4), .int .i64 y, .bool false] 23) ∧ w'.cell? (ad.add i.toNat) = some (.int .i64 (rd l0 i))) (by kernel_rfl) (by kernel_rfl) (fun w' hw => ⟨blk_bel HBK.out hw, blk_bel HQ.out hw, Quiet.Bel.cellA hw hc⟩) (fun W6 hW6 hcell => ?_)
              repeat (first
                | go_big_quiet_skip
                | (go_big_quiet_want; go_big_quiet_op; go_big_quiet_on)
                | (refine Quiet.val _ _ (by rfl) (by (intro w' hC; obtain ⟨s0, s2, s1⟩ := hcell w' hC; have q0 : w'.cell? ⟨w.heap.size, 0, none⟩ = some (.int .i64 lie) := blk_cell s0 0; have q1 : w'.cell? ⟨w.heap.size, 1, none⟩ = some (.int .i64 pos) := blk_cell s0 1; have q2 : w'.cell? ⟨w.heap.size, 2, none⟩ = some (.bool false) := blk_cell s0 2; have p0 : w'.cell? ⟨b, 0, none⟩ = some (.int .i64 (rd l0 i % 4)) := blk_cell s2 0; have p1 : w'.cell? ⟨b, 1, none⟩ = some (.int .i64 y) := blk_cell s2 1; have p2 : w'.cell? ⟨b, 2, none⟩ = some (.bool false) := blk_cell s2 2; clear s0 s2; go_simp; with_reducible rfl)) (by (simp only [Act.put, List.setIfInBounds_toArray, List.set_cons_zero, List.set_cons_succ]; rfl)) ?_))
              refine Quiet.done ?_
              intro w6 hbel
              have HBK := Aside0.mk (blk_bel HBK.out (hW6.out ▸ hbel))
              have HQ := Aside0.mk (blk_bel HQ.out (hW6.out ▸ hbel))
              have HB := Aside0.mk (Quiet.Bel.out HB.out hW6 hbel)
              clear hbel hcell hc
              have hc := (HB.out.cell (World.block_lt_of_cell? w _ HCW.out)).trans HCW.out
              go_wp2_with fail
              refine Quiet.start (fun w' => w'.heap[w.heap.size]? = some (.cells #[.int .i64 lie, .int .i64 pos, .bool false] 23) ∧ w'.heap[b]? = some (.cells #[.int .i64 (rd l0 i % 4), .int .i64 y, .bool false] 23) ∧ w'.cell? (ad.add i.toNat) = some (.int .i64 (rd l0 i))) (by kernel_rfl) (by kernel_rfl) (fun w' hw => ⟨blk_bel HBK.out hw, blk_bel HQ.out hw, Quiet.Bel.cellA hw hc⟩) (fun W7 hW7 hcell => ?_)
              repeat (first
                | go_big_quiet_skip
                | (go_big_quiet_want; go_big_quiet_op; go_big_quiet_on)
                | (refine Quiet.val _ _ (by rfl) (by (intro w' hC; obtain ⟨s0, s2, s1⟩ := hcell w' hC; have q0 : w'.cell? ⟨w.heap.size, 0, none⟩ = some (.int .i64 lie) := blk_cell s0 0; have q1 : w'.cell? ⟨w.heap.size, 1, none⟩ = some (.int .i64 pos) := blk_cell s0 1; have q2 : w'.cell? ⟨w.heap.size, 2, none⟩ = some (.bool false) := blk_cell s0 2; have p0 : w'.cell? ⟨b, 0, none⟩ = some (.int .i64 (rd l0 i % 4)) := blk_cell s2 0; have p1 : w'.cell? ⟨b, 1, none⟩ = some (.int .i64 y) := blk_cell s2 1; have p2 : w'.cell? ⟨b, 2, none⟩ = some (.bool false) := blk_cell s2 2; clear s0 s2; go_simp; with_reducible rfl)) (by (simp only [Act.put, List.setIfInBounds_toArray, List.set_cons_zero, List.set_cons_succ]; rfl)) ?_))
              refine Quiet.done ?_
              intro w7 hbel
              have HBK := Aside0.mk (blk_bel HBK.out (hW7.out ▸ hbel))
              have HQ := Aside0.mk (blk_bel HQ.out (hW7.out ▸ hbel))
              have HB := Aside0.mk (Quiet.Bel.out HB.out hW7 hbel)
              clear hbel hcell hc
              have hc := (HB.out.cell (World.block_lt_of_cell? w _ HCW.out)).trans HCW.out
              have q0 : w7.cell? ⟨w.heap.size, 0, none⟩ = some (.int .i64 lie) := blk_cell HBK.out 0
              have q1 : w7.cell? ⟨w.heap.size, 1, none⟩ = some (.int .i64 pos) := blk_cell HBK.out 1
              have q2 : w7.cell? ⟨w.heap.size, 2, none⟩ = some (.bool false) := blk_cell HBK.out 2
              have p0 : w7.cell? ⟨b, 0, none⟩ = some (.int .i64 (rd l0 i % 4)) := blk_cell HQ.out 0
              have p1 : w7.cell? ⟨b, 1, none⟩ = some (.int .i64 y) := blk_cell HQ.out 1
              have p2 : w7.cell? ⟨b, 2, none⟩ = some (.bool false) := blk_cell HQ.out 2
              have f0 := Quiet.frozen_of HBK.out 0
              have f1 := Quiet.frozen_of HBK.out 1
              have f2 := Quiet.frozen_of HBK.out 2
              have e1 := HE.out
              have hne := Nat.ne_of_lt HNE.out
              go_wp2_with fail
              go_roundg k1
              case measure => omega
              case rel => exact ⟨i + 1, rd l0 i % 4, y, false, (by first | rfl | (simp; done) | (simp [*]; done)), ⟨by have := HI.out; exact ⟨by omega, HY.out⟩⟩, ⟨by have := HK.out; omega⟩, ⟨blk_put (blk_put (blk_put HBK.out 0 _ rfl) 1 _ rfl) 2 _ rfl⟩, ⟨by repeat (first | (with_reducible exact HB.out) | (with_reducible refine below_set ?_ (Nat.le_refl _)))⟩⟩
            · obtain ⟨y, hy⟩ : ∃ y, y = posN ((gray4 (rd l0 i) - gray4 lie) % 4) pos := ⟨_, rfl⟩
              rw [hw] at hy
              have hy1 : y = pos + (1) ∧ (-9223372036854775808 ≤ y ∧ y ≤ 9223372036854775807) := by
                rw [hy]
                unfold posN wrap64
                (repeat' split) <;> omega
              have HF := Aside0.mk (show pair_Step.f lie pos true (rd l0 i) = some (rd l0 i % 4, y, true) by simp only [pair_Step.f, hw, hy]; rfl)
              have HY := Aside0.mk hy1.2
              have t1 : (y == pos) = false := by simp; omega
              have t1b : (y != pos) = true := by simp; omega
              have t1c : decide (y = pos) = false := by simp; omega
              have t2 : wrap64 (y - pos) = 1 := by unfold wrap64; omega
              have t3 := Arith.and3 (rd l0 i)
              obtain ⟨m, hm⟩ : ∃ m, m = bits .and .i64 (bits .xor .i64 lie (rd l0 i)) 3 := ⟨_, rfl⟩
              have t4 : (m == 3) = false := by
                rw [hm, Arith.both3]
                rcases gray4_cases lie with ⟨g, u⟩ | ⟨g, u⟩ | ⟨g, u⟩ | ⟨g, u⟩ <;> rcases gray4_cases (rd l0 i) with ⟨g', u'⟩ | ⟨g', u'⟩ | ⟨g', u'⟩ | ⟨g', u'⟩ <;> rw [u, u'] <;> first | decide | (exfalso; rw [g, g'] at hw; revert hw; decide)
              replace hm := hm.symm
              clear hy hy1 hw
              go_wp2_with fail
              apply Quiet.tailA (S := fun w' => w'.heap[w.heap.size]? = some (.cells #[.int .i64 lie, .int .i64 pos, .bool true] 23) ∧ w'.cell? (ad.add i.toNat) = some (.int .i64 (rd l0 i))) (n := 7) (iA := 6) (d := 7) (ob := .cells #[.int .i64 0, .int .i64 0, .bool false] 23) (hm := by kernel_rfl) (hB := by kernel_rfl) (hiA := by omega) (hz := by kernel_rfl) (hS := fun w' hw => ⟨blk_bel HBK.out hw, Quiet.Bel.cellA hw hc⟩)
              case hA =>
                intro oA ho
                obtain rfl := Option.some.inj ho
                exact ⟨rfl, fun ρ w => by kernel_rfl⟩
              case h =>
                intro W1 hcell
                simp only [List.take_succ_cons, List.take_zero, List.eraseIdx_cons_succ, List.eraseIdx_cons_zero, List.drop_succ_cons, List.drop_zero]
                repeat (first
                  | go_big_quiet_skip
                  | (go_big_quiet_want; go_big_quiet_op; go_big_quiet_on)
                  | (refine Quiet.val _ _ (by rfl) (by (intro w' hC; obtain ⟨s0, s1⟩ := hcell w' hC; have q0 : w'.cell? ⟨w.heap.size, 0, none⟩ = some (.int .i64 lie) := blk_cell s0 0; have q1 : w'.cell? ⟨w.heap.size, 1, none⟩ = some (.int .i64 pos) := blk_cell s0 1; have q2 : w'.cell? ⟨w.heap.size, 2, none⟩ = some (.bool true) := blk_cell s0 2; clear s0; go_simp; with_reducible rfl)) (by (simp only [Act.put, List.setIfInBounds_toArray, List.set_cons_zero, List.set_cons_succ]; rfl)) ?_)
                  | (refine Quiet.call (args := #[.agg #[.int .i64 lie, .int .i64 pos, .bool true], .int .i64 (rd l0 i)]) _ _ (by rfl) (by rfl) Try.func15 (by kernel_rfl) rfl (by simp only [List.map_toArray, List.map_cons, List.map_nil]; rfl) (fun w' hC => pair_Step.calls lie pos true (rd l0 i) (rd l0 i % 4) y true _ HF.out) (by (simp only [Act.put, List.setIfInBounds_toArray, List.set_cons_zero, List.set_cons_succ]; rfl)) ?_))
                exact Quiet.done rfl
              intro W0 hW0 b w' hbel hS hb hob
              obtain ⟨s0, s1⟩ := hS
              have hle := hW0.le HB.out hb
              have hlt : w.heap.size < b := Nat.lt_of_lt_of_le (blk_lt HBK.out) (hW0.out ▸ hb)
              have z0 : w'.cell? ⟨b, 0, none⟩ = some (.int .i64 0) := Quiet.cell_of hob 0
              have f0 := Quiet.frozen_of hob 0
              have z1 : w'.cell? ⟨b, 1, none⟩ = some (.int .i64 0) := Quiet.cell_of hob 1
              have f1 := Quiet.frozen_of hob 1
              have z2 : w'.cell? ⟨b, 2, none⟩ = some (.bool false) := Quiet.cell_of hob 2
              have f2 := Quiet.frozen_of hob 2
              have QK := blk_put (blk_put (blk_put hob 0 (.int .i64 (rd l0 i % 4)) rfl) 1 (.int .i64 y) rfl) 2 (.bool true) rfl
              have BK5 := (Below.heap_setCell ((w'.setCell ⟨b, 0, none⟩ (.int .i64 (rd l0 i % 4))).setCell ⟨b, 1, none⟩ (.int .i64 y)) ⟨b, 2, none⟩ (.bool true) (w.heap.size) (Nat.ne_of_lt hlt)).trans ((Below.heap_setCell (w'.setCell ⟨b, 0, none⟩ (.int .i64 (rd l0 i % 4))) ⟨b, 1, none⟩ (.int .i64 y) (w.heap.size) (Nat.ne_of_lt hlt)).trans ((Below.heap_setCell w' ⟨b, 0, none⟩ (.int .i64 (rd l0 i % 4)) (w.heap.size) (Nat.ne_of_lt hlt)).trans s0))
              have B5 := Quiet.Bel.set (k := 2) (v := .bool true) (Quiet.Bel.set (k := 1) (v := .int .i64 y) (Quiet.Bel.set (k := 0) (v := .int .i64 (rd l0 i % 4)) (Quiet.Bel.out HB.out hW0 hbel) hle) hle) hle
              have HLE := Aside0.mk hle
              have HNE := Aside0.mk hlt
              simp only [List.take_succ_cons, List.take_zero, List.eraseIdx_cons_succ, List.eraseIdx_cons_zero, List.drop_succ_cons, List.drop_zero, Act.put, List.setIfInBounds_toArray, List.set_cons_zero, List.set_cons_succ]
              clear hbel hle hlt HBK HB hc s0 hb hob
              refine store_event rfl rfl rfl (w1 := ((w'.setCell ⟨b, 0, none⟩ (.int .i64 (rd l0 i % 4))).setCell ⟨b, 1, none⟩ (.int .i64 y)).setCell ⟨b, 2, none⟩ (.bool true)) (by go_simp) ?_
              intro w5 hw5
              rw [← hw5] at QK BK5 B5
              clear hw5 z0 z1 z2 f0 f1 f2 s1
              have HBK := Aside0.mk BK5
              have HB := Aside0.mk B5
              have HQ := Aside0.mk QK
              clear BK5 B5 QK
              have hc := (HB.out.cell (World.block_lt_of_cell? w _ HCW.out)).trans HCW.out
              go_wp2_with fail
              refine Quiet.start (fun w' => w'.heap[w.heap.size]? = some (.cells #[.int .i64 lie, .int .i64 pos, .bool true] 23) ∧ w'.heap[b]? = some (.cells #[.int .i64 (rd l0 i % 4), .int .i64 y, .bool true] 23) ∧ w'.cell? (ad.add i.toNat) = some (.int .i64 (rd l0 i))) (by kernel_rfl) (by kernel_rfl) (fun w' hw => ⟨blk_bel HBK.out hw, blk_bel HQ.out hw, Quiet.Bel.cellA hw hc⟩) (fun W6 hW6 hcell => ?_)
              repeat (first
                | go_big_quiet_skip
                | (go_big_quiet_want; go_big_quiet_op; go_big_quiet_on)
                | (refine Quiet.val _ _ (by rfl) (by (intro w' hC; obtain ⟨s0, s2, s1⟩ := hcell w' hC; have q0 : w'.cell? ⟨w.heap.size, 0, none⟩ = some (.int .i64 lie) := blk_cell s0 0; have q1 : w'.cell? ⟨w.heap.size, 1, none⟩ = some (.int .i64 pos) := blk_cell s0 1; have q2 : w'.cell? ⟨w.heap.size, 2, none⟩ = some (.bool true) := blk_cell s0 2; have p0 : w'.cell? ⟨b, 0, none⟩ = some (.int .i64 (rd l0 i % 4)) := blk_cell s2 0; have p1 : w'.cell? ⟨b, 1, none⟩ = some (.int .i64 y) := blk_cell s2 1; have p2 : w'.cell? ⟨b, 2, none⟩ = some (.bool true) := blk_cell s2 2; clear s0 s2; go_simp; with_reducible rfl)) (by (simp only [Act.put, List.setIfInBounds_toArray, List.set_cons_zero, List.set_cons_succ]; rfl)) ?_))
              refine Quiet.done ?_
              intro w6 hbel
              have HBK := Aside0.mk (blk_bel HBK.out (hW6.out ▸ hbel))
              have HQ := Aside0.mk (blk_bel HQ.out (hW6.out ▸ hbel))
              have HB := Aside0.mk (Quiet.Bel.out HB.out hW6 hbel)
              clear hbel hcell hc
              have hc := (HB.out.cell (World.block_lt_of_cell? w _ HCW.out)).trans HCW.out
              go_wp2_with fail
              refine Quiet.start (fun w' => w'.heap[w.heap.size]? = some (.cells #[.int .i64 lie, .int .i64 pos, .bool true] 23) ∧ w'.heap[b]? = some (.cells #[.int .i64 (rd l0 i % 4), .int .i64 y, .bool true] 23) ∧ w'.cell? (ad.add i.toNat) = some (.int .i64 (rd l0 i))) (by kernel_rfl) (by kernel_rfl) (fun w' hw => ⟨blk_bel HBK.out hw, blk_bel HQ.out hw, Quiet.Bel.cellA hw hc⟩) (fun W7 hW7 hcell => ?_)
              repeat (first
                | go_big_quiet_skip
                | (go_big_quiet_want; go_big_quiet_op; go_big_quiet_on)
                | (refine Quiet.val _ _ (by rfl) (by (intro w' hC; obtain ⟨s0, s2, s1⟩ := hcell w' hC; have q0 : w'.cell? ⟨w.heap.size, 0, none⟩ = some (.int .i64 lie) := blk_cell s0 0; have q1 : w'.cell? ⟨w.heap.size, 1, none⟩ = some (.int .i64 pos) := blk_cell s0 1; have q2 : w'.cell? ⟨w.heap.size, 2, none⟩ = some (.bool true) := blk_cell s0 2; have p0 : w'.cell? ⟨b, 0, none⟩ = some (.int .i64 (rd l0 i % 4)) := blk_cell s2 0; have p1 : w'.cell? ⟨b, 1, none⟩ = some (.int .i64 y) := blk_cell s2 1; have p2 : w'.cell? ⟨b, 2, none⟩ = some (.bool true) := blk_cell s2 2; clear s0 s2; go_simp; with_reducible rfl)) (by (simp only [Act.put, List.setIfInBounds_toArray, List.set_cons_zero, List.set_cons_succ]; rfl)) ?_))
              refine Quiet.done ?_
              intro w7 hbel
              have HBK := Aside0.mk (blk_bel HBK.out (hW7.out ▸ hbel))
              have HQ := Aside0.mk (blk_bel HQ.out (hW7.out ▸ hbel))
              have HB := Aside0.mk (Quiet.Bel.out HB.out hW7 hbel)
              clear hbel hcell hc
              have hc := (HB.out.cell (World.block_lt_of_cell? w _ HCW.out)).trans HCW.out
              have q0 : w7.cell? ⟨w.heap.size, 0, none⟩ = some (.int .i64 lie) := blk_cell HBK.out 0
              have q1 : w7.cell? ⟨w.heap.size, 1, none⟩ = some (.int .i64 pos) := blk_cell HBK.out 1
              have q2 : w7.cell? ⟨w.heap.size, 2, none⟩ = some (.bool true) := blk_cell HBK.out 2
              have p0 : w7.cell? ⟨b, 0, none⟩ = some (.int .i64 (rd l0 i % 4)) := blk_cell HQ.out 0
              have p1 : w7.cell? ⟨b, 1, none⟩ = some (.int .i64 y) := blk_cell HQ.out 1
              have p2 : w7.cell? ⟨b, 2, none⟩ = some (.bool true) := blk_cell HQ.out 2
              have f0 := Quiet.frozen_of HBK.out 0
              have f1 := Quiet.frozen_of HBK.out 1
              have f2 := Quiet.frozen_of HBK.out 2
              have e1 := HE.out
              have hne := Nat.ne_of_lt HNE.out
              go_wp2_with fail
              go_roundg k1
              case measure => omega
              case rel => exact ⟨i + 1, rd l0 i % 4, y, true, (by first | rfl | (simp; done) | (simp [*]; done)), ⟨by have := HI.out; exact ⟨by omega, HY.out⟩⟩, ⟨by have := HK.out; omega⟩, ⟨blk_put (blk_put (blk_put HBK.out 0 _ rfl) 1 _ rfl) 2 _ rfl⟩, ⟨by repeat (first | (with_reducible exact HB.out) | (with_reducible refine below_set ?_ (Nat.le_refl _)))⟩⟩
          · cases jump
            · obtain ⟨y, hy⟩ : ∃ y, y = posN ((gray4 (rd l0 i) - gray4 lie) % 4) pos := ⟨_, rfl⟩
              rw [hw] at hy
              have hy1 : y = pos + (0) ∧ (-9223372036854775808 ≤ y ∧ y ≤ 9223372036854775807) := by
                rw [hy]
                unfold posN wrap64
                (repeat' split) <;> omega
              have HF := Aside0.mk (show pair_Step.f lie pos false (rd l0 i) = some (rd l0 i % 4, y, false) by simp only [pair_Step.f, hw, hy]; rfl)
              have HY := Aside0.mk hy1.2
              have t1 : (y == pos) = true := by simp; omega
              have t1b : (y != pos) = false := by simp; omega
              have t1c : decide (y = pos) = true := by simp; omega
              have t2 : wrap64 (y - pos) = 0 := by unfold wrap64; omega
              have t3 := Arith.and3 (rd l0 i)
              obtain ⟨m, hm⟩ : ∃ m, m = bits .and .i64 (bits .xor .i64 lie (rd l0 i)) 3 := ⟨_, rfl⟩
              have t4 : (m == 3) = false := by
                rw [hm, Arith.both3]
                rcases gray4_cases lie with ⟨g, u⟩ | ⟨g, u⟩ | ⟨g, u⟩ | ⟨g, u⟩ <;> rcases gray4_cases (rd l0 i) with ⟨g', u'⟩ | ⟨g', u'⟩ | ⟨g', u'⟩ | ⟨g', u'⟩ <;> rw [u, u'] <;> first | decide | (exfalso; rw [g, g'] at hw; revert hw; decide)
              replace hm := hm.symm
              clear hy hy1 hw
              go_wp2_with fail
              apply Quiet.tailA (S := fun w' => w'.heap[w.heap.size]? = some (.cells #[.int .i64 lie, .int .i64 pos, .bool false] 23) ∧ w'.cell? (ad.add i.toNat) = some (.int .i64 (rd l0 i))) (n := 7) (iA := 6) (d := 7) (ob := .cells #[.int .i64 0, .int .i64 0, .bool false] 23) (hm := by kernel_rfl) (hB := by kernel_rfl) (hiA := by omega) (hz := by kernel_rfl) (hS := fun w' hw => ⟨blk_bel HBK.out hw, Quiet.Bel.cellA hw hc⟩)
              case hA =>
                intro oA ho
                obtain rfl := Option.some.inj ho
                exact ⟨rfl, fun ρ w => by kernel_rfl⟩
              case h =>
                intro W1 hcell
                simp only [List.take_succ_cons, List.take_zero, List.eraseIdx_cons_succ, List.eraseIdx_cons_zero, List.drop_succ_cons, List.drop_zero]
                repeat (first
                  | go_big_quiet_skip
                  | (go_big_quiet_want; go_big_quiet_op; go_big_quiet_on)
                  | (refine Quiet.val _ _ (by rfl) (by (intro w' hC; obtain ⟨s0, s1⟩ := hcell w' hC; have q0 : w'.cell? ⟨w.heap.size, 0, none⟩ = some (.int .i64 lie) := blk_cell s0 0; have q1 : w'.cell? ⟨w.heap.size, 1, none⟩ = some (.int .i64 pos) := blk_cell s0 1; have q2 : w'.cell? ⟨w.heap.size, 2, none⟩ = some (.bool false) := blk_cell s0 2; clear s0; go_simp; with_reducible rfl)) (by (simp only [Act.put, List.setIfInBounds_toArray, List.set_cons_zero, List.set_cons_succ]; rfl)) ?_)
                  | (refine Quiet.call (args := #[.agg #[.int .i64 lie, .int .i64 pos, .bool false], .int .i64 (rd l0 i)]) _ _ (by rfl) (by rfl) Try.func15 (by kernel_rfl) rfl (by simp only [List.map_toArray, List.map_cons, List.map_nil]; rfl) (fun w' hC => pair_Step.calls lie pos false (rd l0 i) (rd l0 i % 4) y false _ HF.out) (by (simp only [Act.put, List.setIfInBounds_toArray, List.set_cons_zero, List.set_cons_succ]; rfl)) ?_))
                exact Quiet.done rfl
              intro W0 hW0 b w' hbel hS hb hob
              obtain ⟨s0, s1⟩ := hS
              have hle := hW0.le HB.out hb
              have hlt : w.heap.size < b := Nat.lt_of_lt_of_le (blk_lt HBK.out) (hW0.out ▸ hb)
              have z0 : w'.cell? ⟨b, 0, none⟩ = some (.int .i64 0) := Quiet.cell_of hob 0
              have f0 := Quiet.frozen_of hob 0
              have z1 : w'.cell? ⟨b, 1, none⟩ = some (.int .i64 0) := Quiet.cell_of hob 1
              have f1 := Quiet.frozen_of hob 1
              have z2 : w'.cell? ⟨b, 2, none⟩ = some (.bool false) := Quiet.cell_of hob 2
              have f2 := Quiet.frozen_of hob 2
              have QK := blk_put (blk_put (blk_put hob 0 (.int .i64 (rd l0 i % 4)) rfl) 1 (.int .i64 y) rfl) 2 (.bool false) rfl
              have BK5 := (Below.heap_setCell ((w'.setCell ⟨b, 0, none⟩ (.int .i64 (rd l0 i % 4))).setCell ⟨b, 1, none⟩ (.int .i64 y)) ⟨b, 2, none⟩ (.bool false) (w.heap.size) (Nat.ne_of_lt hlt)).trans ((Below.heap_setCell (w'.setCell ⟨b, 0, none⟩ (.int .i64 (rd l0 i % 4))) ⟨b, 1, none⟩ (.int .i64 y) (w.heap.size) (Nat.ne_of_lt hlt)).trans ((Below.heap_setCell w' ⟨b, 0, none⟩ (.int .i64 (rd l0 i % 4)) (w.heap.size) (Nat.ne_of_lt hlt)).trans s0))
              have B5 := Quiet.Bel.set (k := 2) (v := .bool false) (Quiet.Bel.set (k := 1) (v := .int .i64 y) (Quiet.Bel.set (k := 0) (v := .int .i64 (rd l0 i % 4)) (Quiet.Bel.out HB.out hW0 hbel) hle) hle) hle
              have HLE := Aside0.mk hle
              have HNE := Aside0.mk hlt
              simp only [List.take_succ_cons, List.take_zero, List.eraseIdx_cons_succ, List.eraseIdx_cons_zero, List.drop_succ_cons, List.drop_zero, Act.put, List.setIfInBounds_toArray, List.set_cons_zero, List.set_cons_succ]
              clear hbel hle hlt HBK HB hc s0 hb hob
              refine store_event rfl rfl rfl (w1 := ((w'.setCell ⟨b, 0, none⟩ (.int .i64 (rd l0 i % 4))).setCell ⟨b, 1, none⟩ (.int .i64 y)).setCell ⟨b, 2, none⟩ (.bool false)) (by go_simp) ?_
              intro w5 hw5
              rw [← hw5] at QK BK5 B5
              clear hw5 z0 z1 z2 f0 f1 f2 s1
              have HBK := Aside0.mk BK5
              have HB := Aside0.mk B5
              have HQ := Aside0.mk QK
              clear BK5 B5 QK
              have hc := (HB.out.cell (World.block_lt_of_cell? w _ HCW.out)).trans HCW.out
              go_wp2_with fail
              refine Quiet.start (fun w' => w'.heap[w.heap.size]? = some (.cells #[.int .i64 lie, .int .i64 pos, .bool false] 23) ∧ w'.heap[b]? = some (.cells #[.int .i64 (rd l0 i % 4), .int .i64 y, .bool false] 23) ∧ w'.cell? (ad.add i.toNat) = some (.int .i64 (rd l0 i))) (by kernel_rfl) (by kernel_rfl) (fun w' hw => ⟨blk_bel HBK.out hw, blk_bel HQ.out hw, Quiet.Bel.cellA hw hc⟩) (fun W6 hW6 hcell => ?_)
              repeat (first
                | go_big_quiet_skip
                | (go_big_quiet_want; go_big_quiet_op; go_big_quiet_on)
                | (refine Quiet.val _ _ (by rfl) (by (intro w' hC; obtain ⟨s0, s2, s1⟩ := hcell w' hC; have q0 : w'.cell? ⟨w.heap.size, 0, none⟩ = some (.int .i64 lie) := blk_cell s0 0; have q1 : w'.cell? ⟨w.heap.size, 1, none⟩ = some (.int .i64 pos) := blk_cell s0 1; have q2 : w'.cell? ⟨w.heap.size, 2, none⟩ = some (.bool false) := blk_cell s0 2; have p0 : w'.cell? ⟨b, 0, none⟩ = some (.int .i64 (rd l0 i % 4)) := blk_cell s2 0; have p1 : w'.cell? ⟨b, 1, none⟩ = some (.int .i64 y) := blk_cell s2 1; have p2 : w'.cell? ⟨b, 2, none⟩ = some (.bool false) := blk_cell s2 2; clear s0 s2; go_simp; with_reducible rfl)) (by (simp only [Act.put, List.setIfInBounds_toArray, List.set_cons_zero, List.set_cons_succ]; rfl)) ?_))
              refine Quiet.done ?_
              intro w6 hbel
              have HBK := Aside0.mk (blk_bel HBK.out (hW6.out ▸ hbel))
              have HQ := Aside0.mk (blk_bel HQ.out (hW6.out ▸ hbel))
              have HB := Aside0.mk (Quiet.Bel.out HB.out hW6 hbel)
              clear hbel hcell hc
              have hc := (HB.out.cell (World.block_lt_of_cell? w _ HCW.out)).trans HCW.out
              go_wp2_with fail
              refine Quiet.start (fun w' => w'.heap[w.heap.size]? = some (.cells #[.int .i64 lie, .int .i64 pos, .bool false] 23) ∧ w'.heap[b]? = some (.cells #[.int .i64 (rd l0 i % 4), .int .i64 y, .bool false] 23) ∧ w'.cell? (ad.add i.toNat) = some (.int .i64 (rd l0 i))) (by kernel_rfl) (by kernel_rfl) (fun w' hw => ⟨blk_bel HBK.out hw, blk_bel HQ.out hw, Quiet.Bel.cellA hw hc⟩) (fun W7 hW7 hcell => ?_)
              repeat (first
                | go_big_quiet_skip
                | (go_big_quiet_want; go_big_quiet_op; go_big_quiet_on)
                | (refine Quiet.val _ _ (by rfl) (by (intro w' hC; obtain ⟨s0, s2, s1⟩ := hcell w' hC; have q0 : w'.cell? ⟨w.heap.size, 0, none⟩ = some (.int .i64 lie) := blk_cell s0 0; have q1 : w'.cell? ⟨w.heap.size, 1, none⟩ = some (.int .i64 pos) := blk_cell s0 1; have q2 : w'.cell? ⟨w.heap.size, 2, none⟩ = some (.bool false) := blk_cell s0 2; have p0 : w'.cell? ⟨b, 0, none⟩ = some (.int .i64 (rd l0 i % 4)) := blk_cell s2 0; have p1 : w'.cell? ⟨b, 1, none⟩ = some (.int .i64 y) := blk_cell s2 1; have p2 : w'.cell? ⟨b, 2, none⟩ = some (.bool false) := blk_cell s2 2; clear s0 s2; go_simp; with_reducible rfl)) (by (simp only [Act.put, List.setIfInBounds_toArray, List.set_cons_zero, List.set_cons_succ]; rfl)) ?_))
              refine Quiet.done ?_
              intro w7 hbel
              have HBK := Aside0.mk (blk_bel HBK.out (hW7.out ▸ hbel))
              have HQ := Aside0.mk (blk_bel HQ.out (hW7.out ▸ hbel))
              have HB := Aside0.mk (Quiet.Bel.out HB.out hW7 hbel)
              clear hbel hcell hc
              have hc := (HB.out.cell (World.block_lt_of_cell? w _ HCW.out)).trans HCW.out
              have q0 : w7.cell? ⟨w.heap.size, 0, none⟩ = some (.int .i64 lie) := blk_cell HBK.out 0
              have q1 : w7.cell? ⟨w.heap.size, 1, none⟩ = some (.int .i64 pos) := blk_cell HBK.out 1
              have q2 : w7.cell? ⟨w.heap.size, 2, none⟩ = some (.bool false) := blk_cell HBK.out 2
              have p0 : w7.cell? ⟨b, 0, none⟩ = some (.int .i64 (rd l0 i % 4)) := blk_cell HQ.out 0
              have p1 : w7.cell? ⟨b, 1, none⟩ = some (.int .i64 y) := blk_cell HQ.out 1
              have p2 : w7.cell? ⟨b, 2, none⟩ = some (.bool false) := blk_cell HQ.out 2
              have f0 := Quiet.frozen_of HBK.out 0
              have f1 := Quiet.frozen_of HBK.out 1
              have f2 := Quiet.frozen_of HBK.out 2
              have e1 := HE.out
              have hne := Nat.ne_of_lt HNE.out
              go_wp2_with fail
              go_roundg k1
              case measure => omega
              case rel => exact ⟨i + 1, rd l0 i % 4, y, false, (by first | rfl | (simp; done) | (simp [*]; done)), ⟨by have := HI.out; exact ⟨by omega, HY.out⟩⟩, ⟨by have := HK.out; omega⟩, ⟨blk_put (blk_put (blk_put HBK.out 0 _ rfl) 1 _ rfl) 2 _ rfl⟩, ⟨by repeat (first | (with_reducible exact HB.out) | (with_reducible refine below_set ?_ (Nat.le_refl _)))⟩⟩
            · obtain ⟨y, hy⟩ : ∃ y, y = posN ((gray4 (rd l0 i) - gray4 lie) % 4) pos := ⟨_, rfl⟩
              rw [hw] at hy
              have hy1 : y = pos + (0) ∧ (-9223372036854775808 ≤ y ∧ y ≤ 9223372036854775807) := by
                rw [hy]
                unfold posN wrap64
                (repeat' split) <;> omega
              have HF := Aside0.mk (show pair_Step.f lie pos true (rd l0 i) = some (rd l0 i % 4, y, true) by simp only [pair_Step.f, hw, hy]; rfl)
              have HY := Aside0.mk hy1.2
              have t1 : (y == pos) = true := by simp; omega
              have t1b : (y != pos) = false := by simp; omega
              have t1c : decide (y = pos) = true := by simp; omega
              have t2 : wrap64 (y - pos) = 0 := by unfold wrap64; omega
              have t3 := Arith.and3 (rd l0 i)
              obtain ⟨m, hm⟩ : ∃ m, m = bits .and .i64 (bits .xor .i64 lie (rd l0 i)) 3 := ⟨_, rfl⟩
              have t4 : (m == 3) = false := by
                rw [hm, Arith.both3]
                rcases gray4_cases lie with ⟨g, u⟩ | ⟨g, u⟩ | ⟨g, u⟩ | ⟨g, u⟩ <;> rcases gray4_cases (rd l0 i) with ⟨g', u'⟩ | ⟨g', u'⟩ | ⟨g', u'⟩ | ⟨g', u'⟩ <;> rw [u, u'] <;> first | decide | (exfalso; rw [g, g'] at hw; revert hw; decide)
              replace hm := hm.symm
              clear hy hy1 hw
              go_wp2_with fail
              apply Quiet.tailA (S := fun w' => w'.heap[w.heap.size]? = some (.cells #[.int .i64 lie, .int .i64 pos, .bool true] 23) ∧ w'.cell? (ad.add i.toNat) = some (.int .i64 (rd l0 i))) (n := 7) (iA := 6) (d := 7) (ob := .cells #[.int .i64 0, .int .i64 0, .bool false] 23) (hm := by kernel_rfl) (hB := by kernel_rfl) (hiA := by omega) (hz := by kernel_rfl) (hS := fun w' hw => ⟨blk_bel HBK.out hw, Quiet.Bel.cellA hw hc⟩)
              case hA =>
                intro oA ho
                obtain rfl := Option.some.inj ho
                exact ⟨rfl, fun ρ w => by kernel_rfl⟩
              case h =>
                intro W1 hcell
                simp only [List.take_succ_cons, List.take_zero, List.eraseIdx_cons_succ, List.eraseIdx_cons_zero, List.drop_succ_cons, List.drop_zero]
                repeat (first
                  | go_big_quiet_skip
                  | (go_big_quiet_want; go_big_quiet_op; go_big_quiet_on)
                  | (refine Quiet.val _ _ (by rfl) (by (intro w' hC; obtain ⟨s0, s1⟩ := hcell w' hC; have q0 : w'.cell? ⟨w.heap.size, 0, none⟩ = some (.int .i64 lie) := blk_cell s0 0; have q1 : w'.cell? ⟨w.heap.size, 1, none⟩ = some (.int .i64 pos) := blk_cell s0 1; have q2 : w'.cell? ⟨w.heap.size, 2, none⟩ = some (.bool true) := blk_cell s0 2; clear s0; go_simp; with_reducible rfl)) (by (simp only [Act.put, List.setIfInBounds_toArray, List.set_cons_zero, List.set_cons_succ]; rfl)) ?_)
                  | (refine Quiet.call (args := #[.agg #[.int .i64 lie, .int .i64 pos, .bool true], .int .i64 (rd l0 i)]) _ _ (by rfl) (by rfl) Try.func15 (by kernel_rfl) rfl (by simp only [List.map_toArray, List.map_cons, List.map_nil]; rfl) (fun w' hC => pair_Step.calls lie pos true (rd l0 i) (rd l0 i % 4) y true _ HF.out) (by (simp only [Act.put, List.setIfInBounds_toArray, List.set_cons_zero, List.set_cons_succ]; rfl)) ?_))
                exact Quiet.done rfl
              intro W0 hW0 b w' hbel hS hb hob
              obtain ⟨s0, s1⟩ := hS
              have hle := hW0.le HB.out hb
              have hlt : w.heap.size < b := Nat.lt_of_lt_of_le (blk_lt HBK.out) (hW0.out ▸ hb)
              have z0 : w'.cell? ⟨b, 0, none⟩ = some (.int .i64 0) := Quiet.cell_of hob 0
              have f0 := Quiet.frozen_of hob 0
              have z1 : w'.cell? ⟨b, 1, none⟩ = some (.int .i64 0) := Quiet.cell_of hob 1
              have f1 := Quiet.frozen_of hob 1
              have z2 : w'.cell? ⟨b, 2, none⟩ = some (.bool false) := Quiet.cell_of hob 2
              have f2 := Quiet.frozen_of hob 2
              have QK := blk_put (blk_put (blk_put hob 0 (.int .i64 (rd l0 i % 4)) rfl) 1 (.int .i64 y) rfl) 2 (.bool true) rfl
              have BK5 := (Below.heap_setCell ((w'.setCell ⟨b, 0, none⟩ (.int .i64 (rd l0 i % 4))).setCell ⟨b, 1, none⟩ (.int .i64 y)) ⟨b, 2, none⟩ (.bool true) (w.heap.size) (Nat.ne_of_lt hlt)).trans ((Below.heap_setCell (w'.setCell ⟨b, 0, none⟩ (.int .i64 (rd l0 i % 4))) ⟨b, 1, none⟩ (.int .i64 y) (w.heap.size) (Nat.ne_of_lt hlt)).trans ((Below.heap_setCell w' ⟨b, 0, none⟩ (.int .i64 (rd l0 i % 4)) (w.heap.size) (Nat.ne_of_lt hlt)).trans s0))
              have B5 := Quiet.Bel.set (k := 2) (v := .bool true) (Quiet.Bel.set (k := 1) (v := .int .i64 y) (Quiet.Bel.set (k := 0) (v := .int .i64 (rd l0 i % 4)) (Quiet.Bel.out HB.out hW0 hbel) hle) hle) hle
              have HLE := Aside0.mk hle
              have HNE := Aside0.mk hlt
              simp only [List.take_succ_cons, List.take_zero, List.eraseIdx_cons_succ, List.eraseIdx_cons_zero, List.drop_succ_cons, List.drop_zero, Act.put, List.setIfInBounds_toArray, List.set_cons_zero, List.set_cons_succ]
              clear hbel hle hlt HBK HB hc s0 hb hob
              refine store_event rfl rfl rfl (w1 := ((w'.setCell ⟨b, 0, none⟩ (.int .i64 (rd l0 i % 4))).setCell ⟨b, 1, none⟩ (.int .i64 y)).setCell ⟨b, 2, none⟩ (.bool true)) (by go_simp) ?_
              intro w5 hw5
              rw [← hw5] at QK BK5 B5
              clear hw5 z0 z1 z2 f0 f1 f2 s1
              have HBK := Aside0.mk BK5
              have HB := Aside0.mk B5
              have HQ := Aside0.mk QK
              clear BK5 B5 QK
              have hc := (HB.out.cell (World.block_lt_of_cell? w _ HCW.out)).trans HCW.out
              go_wp2_with fail
              refine Quiet.start (fun w' => w'.heap[w.heap.size]? = some (.cells #[.int .i64 lie, .int .i64 pos, .bool true] 23) ∧ w'.heap[b]? = some (.cells #[.int .i64 (rd l0 i % 4), .int .i64 y, .bool true] 23) ∧ w'.cell? (ad.add i.toNat) = some (.int .i64 (rd l0 i))) (by kernel_rfl) (by kernel_rfl) (fun w' hw => ⟨blk_bel HBK.out hw, blk_bel HQ.out hw, Quiet.Bel.cellA hw hc⟩) (fun W6 hW6 hcell => ?_)
              repeat (first
                | go_big_quiet_skip
                | (go_big_quiet_want; go_big_quiet_op; go_big_quiet_on)
                | (refine Quiet.val _ _ (by rfl) (by (intro w' hC; obtain ⟨s0, s2, s1⟩ := hcell w' hC; have q0 : w'.cell? ⟨w.heap.size, 0, none⟩ = some (.int .i64 lie) := blk_cell s0 0; have q1 : w'.cell? ⟨w.heap.size, 1, none⟩ = some (.int .i64 pos) := blk_cell s0 1; have q2 : w'.cell? ⟨w.heap.size, 2, none⟩ = some (.bool true) := blk_cell s0 2; have p0 : w'.cell? ⟨b, 0, none⟩ = some (.int .i64 (rd l0 i % 4)) := blk_cell s2 0; have p1 : w'.cell? ⟨b, 1, none⟩ = some (.int .i64 y) := blk_cell s2 1; have p2 : w'.cell? ⟨b, 2, none⟩ = some (.bool true) := blk_cell s2 2; clear s0 s2; go_simp; with_reducible rfl)) (by (simp only [Act.put, List.setIfInBounds_toArray, List.set_cons_zero, List.set_cons_succ]; rfl)) ?_))
              refine Quiet.done ?_
              intro w6 hbel
              have HBK := Aside0.mk (blk_bel HBK.out (hW6.out ▸ hbel))
              have HQ := Aside0.mk (blk_bel HQ.out (hW6.out ▸ hbel))
              have HB := Aside0.mk (Quiet.Bel.out HB.out hW6 hbel)
              clear hbel hcell hc
              have hc := (HB.out.cell (World.block_lt_of_cell? w _ HCW.out)).trans HCW.out
              go_wp2_with fail
              refine Quiet.start (fun w' => w'.heap[w.heap.size]? = some (.cells #[.int .i64 lie, .int .i64 pos, .bool true] 23) ∧ w'.heap[b]? = some (.cells #[.int .i64 (rd l0 i % 4), .int .i64 y, .bool true] 23) ∧ w'.cell? (ad.add i.toNat) = some (.int .i64 (rd l0 i))) (by kernel_rfl) (by kernel_rfl) (fun w' hw => ⟨blk_bel HBK.out hw, blk_bel HQ.out hw, Quiet.Bel.cellA hw hc⟩) (fun W7 hW7 hcell => ?_)
              repeat (first
                | go_big_quiet_skip
                | (go_big_quiet_want; go_big_quiet_op; go_big_quiet_on)
                | (refine Quiet.val _ _ (by rfl) (by (intro w' hC; obtain ⟨s0, s2, s1⟩ := hcell w' hC; have q0 : w'.cell? ⟨w.heap.size, 0, none⟩ = some (.int .i64 lie) := blk_cell s0 0; have q1 : w'.cell? ⟨w.heap.size, 1, none⟩ = some (.int .i64 pos) := blk_cell s0 1; have q2 : w'.cell? ⟨w.heap.size, 2, none⟩ = some (.bool true) := blk_cell s0 2; have p0 : w'.cell? ⟨b, 0, none⟩ = some (.int .i64 (rd l0 i % 4)) := blk_cell s2 0; have p1 : w'.cell? ⟨b, 1, none⟩ = some (.int .i64 y) := blk_cell s2 1; have p2 : w'.cell? ⟨b, 2, none⟩ = some (.bool true) := blk_cell s2 2; clear s0 s2; go_simp; with_reducible rfl)) (by (simp only [Act.put, List.setIfInBounds_toArray, List.set_cons_zero, List.set_cons_succ]; rfl)) ?_))
              refine Quiet.done ?_
              intro w7 hbel
              have HBK := Aside0.mk (blk_bel HBK.out (hW7.out ▸ hbel))
              have HQ := Aside0.mk (blk_bel HQ.out (hW7.out ▸ hbel))
              have HB := Aside0.mk (Quiet.Bel.out HB.out hW7 hbel)
              clear hbel hcell hc
              have hc := (HB.out.cell (World.block_lt_of_cell? w _ HCW.out)).trans HCW.out
              have q0 : w7.cell? ⟨w.heap.size, 0, none⟩ = some (.int .i64 lie) := blk_cell HBK.out 0
              have q1 : w7.cell? ⟨w.heap.size, 1, none⟩ = some (.int .i64 pos) := blk_cell HBK.out 1
              have q2 : w7.cell? ⟨w.heap.size, 2, none⟩ = some (.bool true) := blk_cell HBK.out 2
              have p0 : w7.cell? ⟨b, 0, none⟩ = some (.int .i64 (rd l0 i % 4)) := blk_cell HQ.out 0
              have p1 : w7.cell? ⟨b, 1, none⟩ = some (.int .i64 y) := blk_cell HQ.out 1
              have p2 : w7.cell? ⟨b, 2, none⟩ = some (.bool true) := blk_cell HQ.out 2
              have f0 := Quiet.frozen_of HBK.out 0
              have f1 := Quiet.frozen_of HBK.out 1
              have f2 := Quiet.frozen_of HBK.out 2
              have e1 := HE.out
              have hne := Nat.ne_of_lt HNE.out
              go_wp2_with fail
              go_roundg k1
              case measure => omega
              case rel => exact ⟨i + 1, rd l0 i % 4, y, true, (by first | rfl | (simp; done) | (simp [*]; done)), ⟨by have := HI.out; exact ⟨by omega, HY.out⟩⟩, ⟨by have := HK.out; omega⟩, ⟨blk_put (blk_put (blk_put HBK.out 0 _ rfl) 1 _ rfl) 2 _ rfl⟩, ⟨by repeat (first | (with_reducible exact HB.out) | (with_reducible refine below_set ?_ (Nat.le_refl _)))⟩⟩
        · cases jump
          · obtain ⟨y, hy⟩ : ∃ y, y = posN ((gray4 (rd l0 i) - gray4 lie) % 4) pos := ⟨_, rfl⟩
            rw [hw] at hy
            have hy1 : y = pos + (0) ∧ (-9223372036854775808 ≤ y ∧ y ≤ 9223372036854775807) := by
              rw [hy]
              unfold posN wrap64
              (repeat' split) <;> omega
            have HF := Aside0.mk (show pair_Step.f lie pos false (rd l0 i) = some (rd l0 i % 4, y, true) by simp only [pair_Step.f, hw, hy]; rfl)
            have HY := Aside0.mk hy1.2
            have t1 : (y == pos) = true := by simp; omega
            have t1b : (y != pos) = false := by simp; omega
            have t1c : decide (y = pos) = true := by simp; omega
            have t2 : wrap64 (y - pos) = 0 := by unfold wrap64; omega
            have t3 := Arith.and3 (rd l0 i)
            obtain ⟨m, hm⟩ : ∃ m, m = bits .and .i64 (bits .xor .i64 lie (rd l0 i)) 3 := ⟨_, rfl⟩
            have t4 : (m == 3) = true := by
              rw [hm, Arith.both3]
              rcases gray4_cases lie with ⟨g, u⟩ | ⟨g, u⟩ | ⟨g, u⟩ | ⟨g, u⟩ <;> rcases gray4_cases (rd l0 i) with ⟨g', u'⟩ | ⟨g', u'⟩ | ⟨g', u'⟩ | ⟨g', u'⟩ <;> rw [u, u'] <;> first | decide | (exfalso; rw [g, g'] at hw; revert hw; decide)
            replace hm := hm.symm
            clear hy hy1 hw
            go_wp2_with fail
            apply Quiet.tailA (S := fun w' => w'.heap[w.heap.size]? = some (.cells #[.int .i64 lie, .int .i64 pos, .bool false] 23) ∧ w'.cell? (ad.add i.toNat) = some (.int .i64 (rd l0 i))) (n := 7) (iA := 6) (d := 7) (ob := .cells #[.int .i64 0, .int .i64 0, .bool false] 23) (hm := by kernel_rfl) (hB := by kernel_rfl) (hiA := by omega) (hz := by kernel_rfl) (hS := fun w' hw => ⟨blk_bel HBK.out hw, Quiet.Bel.cellA hw hc⟩)
            case hA =>
              intro oA ho
              obtain rfl := Option.some.inj ho
              exact ⟨rfl, fun ρ w => by kernel_rfl⟩
            case h =>
              intro W1 hcell
              simp only [List.take_succ_cons, List.take_zero, List.eraseIdx_cons_succ, List.eraseIdx_cons_zero, List.drop_succ_cons, List.drop_zero]
              repeat (first
                | go_big_quiet_skip
                | (go_big_quiet_want; go_big_quiet_op; go_big_quiet_on)
                | (refine Quiet.val _ _ (by rfl) (by (intro w' hC; obtain ⟨s0, s1⟩ := hcell w' hC; have q0 : w'.cell? ⟨w.heap.size, 0, none⟩ = some (.int .i64 lie) := blk_cell s0 0; have q1 : w'.cell? ⟨w.heap.size, 1, none⟩ = some (.int .i64 pos) := blk_cell s0 1; have q2 : w'.cell? ⟨w.heap.size, 2, none⟩ = some (.bool false) := blk_cell s0 2; clear s0; go_simp; with_reducible rfl)) (by (simp only [Act.put, List.setIfInBounds_toArray, List.set_cons_zero, List.set_cons_succ]; rfl)) ?_)
                | (refine Quiet.call (args := #[.agg #[.int .i64 lie, .int .i64 pos, .bool false], .int .i64 (rd l0 i)]) _ _ (by rfl) (by rfl) Try.func15 (by kernel_rfl) rfl (by simp only [List.map_toArray, List.map_cons, List.map_nil]; rfl) (fun w' hC => pair_Step.calls lie pos false (rd l0 i) (rd l0 i % 4) y true _ HF.out) (by (simp only [Act.put, List.setIfInBounds_toArray, List.set_cons_zero, List.set_cons_succ]; rfl)) ?_))
              exact Quiet.done rfl
            intro W0 hW0 b w' hbel hS hb hob
            obtain ⟨s0, s1⟩ := hS
            have hle := hW0.le HB.out hb
            have hlt : w.heap.size < b := Nat.lt_of_lt_of_le (blk_lt HBK.out) (hW0.out ▸ hb)
            have z0 : w'.cell? ⟨b, 0, none⟩ = some (.int .i64 0) := Quiet.cell_of hob 0
            have f0 := Quiet.frozen_of hob 0
            have z1 : w'.cell? ⟨b, 1, none⟩ = some (.int .i64 0) := Quiet.cell_of hob 1
            have f1 := Quiet.frozen_of hob 1
            have z2 : w'.cell? ⟨b, 2, none⟩ = some (.bool false) := Quiet.cell_of hob 2
            have f2 := Quiet.frozen_of hob 2
            have QK := blk_put (blk_put (blk_put hob 0 (.int .i64 (rd l0 i % 4)) rfl) 1 (.int .i64 y) rfl) 2 (.bool true) rfl
            have BK5 := (Below.heap_setCell ((w'.setCell ⟨b, 0, none⟩ (.int .i64 (rd l0 i % 4))).setCell ⟨b, 1, none⟩ (.int .i64 y)) ⟨b, 2, none⟩ (.bool true) (w.heap.size) (Nat.ne_of_lt hlt)).trans ((Below.heap_setCell (w'.setCell ⟨b, 0, none⟩ (.int .i64 (rd l0 i % 4))) ⟨b, 1, none⟩ (.int .i64 y) (w.heap.size) (Nat.ne_of_lt hlt)).trans ((Below.heap_setCell w' ⟨b, 0, none⟩ (.int .i64 (rd l0 i % 4)) (w.heap.size) (Nat.ne_of_lt hlt)).trans s0))
            have B5 := Quiet.Bel.set (k := 2) (v := .bool true) (Quiet.Bel.set (k := 1) (v := .int .i64 y) (Quiet.Bel.set (k := 0) (v := .int .i64 (rd l0 i % 4)) (Quiet.Bel.out HB.out hW0 hbel) hle) hle) hle
            have HLE := Aside0.mk hle
            have HNE := Aside0.mk hlt
            simp only [List.take_succ_cons, List.take_zero, List.eraseIdx_cons_succ, List.eraseIdx_cons_zero, List.drop_succ_cons, List.drop_zero, Act.put, List.setIfInBounds_toArray, List.set_cons_zero, List.set_cons_succ]
            clear hbel hle hlt HBK HB hc s0 hb hob
            refine store_event rfl rfl rfl (w1 := ((w'.setCell ⟨b, 0, none⟩ (.int .i64 (rd l0 i % 4))).setCell ⟨b, 1, none⟩ (.int .i64 y)).setCell ⟨b, 2, none⟩ (.bool true)) (by go_simp) ?_
            intro w5 hw5
            rw [← hw5] at QK BK5 B5
            clear hw5 z0 z1 z2 f0 f1 f2 s1
            have HBK := Aside0.mk BK5
            have HB := Aside0.mk B5
            have HQ := Aside0.mk QK
            clear BK5 B5 QK
            have hc := (HB.out.cell (World.block_lt_of_cell? w _ HCW.out)).trans HCW.out
            go_wp2_with fail
            refine Quiet.start (fun w' => w'.heap[w.heap.size]? = some (.cells #[.int .i64 lie, .int .i64 pos, .bool false] 23) ∧ w'.heap[b]? = some (.cells #[.int .i64 (rd l0 i % 4), .int .i64 y, .bool true] 23) ∧ w'.cell? (ad.add i.toNat) = some (.int .i64 (rd l0 i))) (by kernel_rfl) (by kernel_rfl) (fun w' hw => ⟨blk_bel HBK.out hw, blk_bel HQ.out hw, Quiet.Bel.cellA hw hc⟩) (fun W6 hW6 hcell => ?_)
            repeat (first
              | go_big_quiet_skip
              | (go_big_quiet_want; go_big_quiet_op; go_big_quiet_on)
              | (refine Quiet.val _ _ (by rfl) (by (intro w' hC; obtain ⟨s0, s2, s1⟩ := hcell w' hC; have q0 : w'.cell? ⟨w.heap.size, 0, none⟩ = some (.int .i64 lie) := blk_cell s0 0; have q1 : w'.cell? ⟨w.heap.size, 1, none⟩ = some (.int .i64 pos) := blk_cell s0 1; have q2 : w'.cell? ⟨w.heap.size, 2, none⟩ = some (.bool false) := blk_cell s0 2; have p0 : w'.cell? ⟨b, 0, none⟩ = some (.int .i64 (rd l0 i % 4)) := blk_cell s2 0; have p1 : w'.cell? ⟨b, 1, none⟩ = some (.int .i64 y) := blk_cell s2 1; have p2 : w'.cell? ⟨b, 2, none⟩ = some (.bool true) := blk_cell s2 2; clear s0 s2; go_simp; with_reducible rfl)) (by (simp only [Act.put, List.setIfInBounds_toArray, List.set_cons_zero, List.set_cons_succ]; rfl)) ?_))
            refine Quiet.done ?_
            intro w6 hbel
            have HBK := Aside0.mk (blk_bel HBK.out (hW6.out ▸ hbel))
            have HQ := Aside0.mk (blk_bel HQ.out (hW6.out ▸ hbel))
            have HB := Aside0.mk (Quiet.Bel.out HB.out hW6 hbel)
            clear hbel hcell hc
            have hc := (HB.out.cell (World.block_lt_of_cell? w _ HCW.out)).trans HCW.out
            go_wp2_with fail
            refine Quiet.start (fun w' => w'.heap[w.heap.size]? = some (.cells #[.int .i64 lie, .int .i64 pos, .bool false] 23) ∧ w'.heap[b]? = some (.cells #[.int .i64 (rd l0 i % 4), .int .i64 y, .bool true] 23) ∧ w'.cell? (ad.add i.toNat) = some (.int .i64 (rd l0 i))) (by kernel_rfl) (by kernel_rfl) (fun w' hw => ⟨blk_bel HBK.out hw, blk_bel HQ.out hw, Quiet.Bel.cellA hw hc⟩) (fun W7 hW7 hcell => ?_)
            repeat (first
              | go_big_quiet_skip
              | (go_big_quiet_want; go_big_quiet_op; go_big_quiet_on)
              | (refine Quiet.val _ _ (by rfl) (by (intro w' hC; obtain ⟨s0, s2, s1⟩ := hcell w' hC; have q0 : w'.cell? ⟨w.heap.size, 0, none⟩ = some (.int .i64 lie) := blk_cell s0 0; have q1 : w'.cell? ⟨w.heap.size, 1, none⟩ = some (.int .i64 pos) := blk_cell s0 1; have q2 : w'.cell? ⟨w.heap.size, 2, none⟩ = some (.bool false) := blk_cell s0 2; have p0 : w'.cell? ⟨b, 0, none⟩ = some (.int .i64 (rd l0 i % 4)) := blk_cell s2 0; have p1 : w'.cell? ⟨b, 1, none⟩ = some (.int .i64 y) := blk_cell s2 1; have p2 : w'.cell? ⟨b, 2, none⟩ = some (.bool true) := blk_cell s2 2; clear s0 s2; go_simp; with_reducible rfl)) (by (simp only [Act.put, List.setIfInBounds_toArray, List.set_cons_zero, List.set_cons_succ]; rfl)) ?_))
            refine Quiet.done ?_
            intro w7 hbel
            have HBK := Aside0.mk (blk_bel HBK.out (hW7.out ▸ hbel))
            have HQ := Aside0.mk (blk_bel HQ.out (hW7.out ▸ hbel))
            have HB := Aside0.mk (Quiet.Bel.out HB.out hW7 hbel)
            clear hbel hcell hc
            have hc := (HB.out.cell (World.block_lt_of_cell? w _ HCW.out)).trans HCW.out
            have q0 : w7.cell? ⟨w.heap.size, 0, none⟩ = some (.int .i64 lie) := blk_cell HBK.out 0
            have q1 : w7.cell? ⟨w.heap.size, 1, none⟩ = some (.int .i64 pos) := blk_cell HBK.out 1
            have q2 : w7.cell? ⟨w.heap.size, 2, none⟩ = some (.bool false) := blk_cell HBK.out 2
            have p0 : w7.cell? ⟨b, 0, none⟩ = some (.int .i64 (rd l0 i % 4)) := blk_cell HQ.out 0
            have p1 : w7.cell? ⟨b, 1, none⟩ = some (.int .i64 y) := blk_cell HQ.out 1
            have p2 : w7.cell? ⟨b, 2, none⟩ = some (.bool true) := blk_cell HQ.out 2
            have f0 := Quiet.frozen_of HBK.out 0
            have f1 := Quiet.frozen_of HBK.out 1
            have f2 := Quiet.frozen_of HBK.out 2
            have e1 := HE.out
            have hne := Nat.ne_of_lt HNE.out
            go_wp2_with fail
            go_roundg k1
            case measure => omega
            case rel => exact ⟨i + 1, rd l0 i % 4, y, true, (by first | rfl | (simp; done) | (simp [*]; done)), ⟨by have := HI.out; exact ⟨by omega, HY.out⟩⟩, ⟨by have := HK.out; omega⟩, ⟨blk_put (blk_put (blk_put HBK.out 0 _ rfl) 1 _ rfl) 2 _ rfl⟩, ⟨by repeat (first | (with_reducible exact HB.out) | (with_reducible refine below_set ?_ (Nat.le_refl _)))⟩⟩
          · obtain ⟨y, hy⟩ : ∃ y, y = posN ((gray4 (rd l0 i) - gray4 lie) % 4) pos := ⟨_, rfl⟩
            rw [hw] at hy
            have hy1 : y = pos + (0) ∧ (-9223372036854775808 ≤ y ∧ y ≤ 9223372036854775807) := by
              rw [hy]
              unfold posN wrap64
              (repeat' split) <;> omega
            have HF := Aside0.mk (show pair_Step.f lie pos true (rd l0 i) = some (rd l0 i % 4, y, true) by simp only [pair_Step.f, hw, hy]; rfl)
            have HY := Aside0.mk hy1.2
            have t1 : (y == pos) = true := by simp; omega
            have t1b : (y != pos) = false := by simp; omega
            have t1c : decide (y = pos) = true := by simp; omega
            have t2 : wrap64 (y - pos) = 0 := by unfold wrap64; omega
            have t3 := Arith.and3 (rd l0 i)
            obtain ⟨m, hm⟩ : ∃ m, m = bits .and .i64 (bits .xor .i64 lie (rd l0 i)) 3 := ⟨_, rfl⟩
            have t4 : (m == 3) = true := by
              rw [hm, Arith.both3]
              rcases gray4_cases lie with ⟨g, u⟩ | ⟨g, u⟩ | ⟨g, u⟩ | ⟨g, u⟩ <;> rcases gray4_cases (rd l0 i) with ⟨g', u'⟩ | ⟨g', u'⟩ | ⟨g', u'⟩ | ⟨g', u'⟩ <;> rw [u, u'] <;> first | decide | (exfalso; rw [g, g'] at hw; revert hw; decide)
            replace hm := hm.symm
            clear hy hy1 hw
            go_wp2_with fail
            apply Quiet.tailA (S := fun w' => w'.heap[w.heap.size]? = some (.cells #[.int .i64 lie, .int .i64 pos, .bool true] 23) ∧ w'.cell? (ad.add i.toNat) = some (.int .i64 (rd l0 i))) (n := 7) (iA := 6) (d := 7) (ob := .cells #[.int .i64 0, .int .i64 0, .bool false] 23) (hm := by kernel_rfl) (hB := by kernel_rfl) (hiA := by omega) (hz := by kernel_rfl) (hS := fun w' hw => ⟨blk_bel HBK.out hw, Quiet.Bel.cellA hw hc⟩)
            case hA =>
              intro oA ho
              obtain rfl := Option.some.inj ho
              exact ⟨rfl, fun ρ w => by kernel_rfl⟩
            case h =>
              intro W1 hcell
              simp only [List.take_succ_cons, List.take_zero, List.eraseIdx_cons_succ, List.eraseIdx_cons_zero, List.drop_succ_cons, List.drop_zero]
              repeat (first
                | go_big_quiet_skip
                | (go_big_quiet_want; go_big_quiet_op; go_big_quiet_on)
                | (refine Quiet.val _ _ (by rfl) (by (intro w' hC; obtain ⟨s0, s1⟩ := hcell w' hC; have q0 : w'.cell? ⟨w.heap.size, 0, none⟩ = some (.int .i64 lie) := blk_cell s0 0; have q1 : w'.cell? ⟨w.heap.size, 1, none⟩ = some (.int .i64 pos) := blk_cell s0 1; have q2 : w'.cell? ⟨w.heap.size, 2, none⟩ = some (.bool true) := blk_cell s0 2; clear s0; go_simp; with_reducible rfl)) (by (simp only [Act.put, List.setIfInBounds_toArray, List.set_cons_zero, List.set_cons_succ]; rfl)) ?_)
                | (refine Quiet.call (args := #[.agg #[.int .i64 lie, .int .i64 pos, .bool true], .int .i64 (rd l0 i)]) _ _ (by rfl) (by rfl) Try.func15 (by kernel_rfl) rfl (by simp only [List.map_toArray, List.map_cons, List.map_nil]; rfl) (fun w' hC => pair_Step.calls lie pos true (rd l0 i) (rd l0 i % 4) y true _ HF.out) (by (simp only [Act.put, List.setIfInBounds_toArray, List.set_cons_zero, List.set_cons_succ]; rfl)) ?_))
              exact Quiet.done rfl
            intro W0 hW0 b w' hbel hS hb hob
            obtain ⟨s0, s1⟩ := hS
            have hle := hW0.le HB.out hb
            have hlt : w.heap.size < b := Nat.lt_of_lt_of_le (blk_lt HBK.out) (hW0.out ▸ hb)
            have z0 : w'.cell? ⟨b, 0, none⟩ = some (.int .i64 0) := Quiet.cell_of hob 0
            have f0 := Quiet.frozen_of hob 0
            have z1 : w'.cell? ⟨b, 1, none⟩ = some (.int .i64 0) := Quiet.cell_of hob 1
            have f1 := Quiet.frozen_of hob 1
            have z2 : w'.cell? ⟨b, 2, none⟩ = some (.bool false) := Quiet.cell_of hob 2
            have f2 := Quiet.frozen_of hob 2
            have QK := blk_put (blk_put (blk_put hob 0 (.int .i64 (rd l0 i % 4)) rfl) 1 (.int .i64 y) rfl) 2 (.bool true) rfl
            have BK5 := (Below.heap_setCell ((w'.setCell ⟨b, 0, none⟩ (.int .i64 (rd l0 i % 4))).setCell ⟨b, 1, none⟩ (.int .i64 y)) ⟨b, 2, none⟩ (.bool true) (w.heap.size) (Nat.ne_of_lt hlt)).trans ((Below.heap_setCell (w'.setCell ⟨b, 0, none⟩ (.int .i64 (rd l0 i % 4))) ⟨b, 1, none⟩ (.int .i64 y) (w.heap.size) (Nat.ne_of_lt hlt)).trans ((Below.heap_setCell w' ⟨b, 0, none⟩ (.int .i64 (rd l0 i % 4)) (w.heap.size) (Nat.ne_of_lt hlt)).trans s0))
            have B5 := Quiet.Bel.set (k := 2) (v := .bool true) (Quiet.Bel.set (k := 1) (v := .int .i64 y) (Quiet.Bel.set (k := 0) (v := .int .i64 (rd l0 i % 4)) (Quiet.Bel.out HB.out hW0 hbel) hle) hle) hle
            have HLE := Aside0.mk hle
            have HNE := Aside0.mk hlt
            simp only [List.take_succ_cons, List.take_zero, List.eraseIdx_cons_succ, List.eraseIdx_cons_zero, List.drop_succ_cons, List.drop_zero, Act.put, List.setIfInBounds_toArray, List.set_cons_zero, List.set_cons_succ]
            clear hbel hle hlt HBK HB hc s0 hb hob
            refine store_event rfl rfl rfl (w1 := ((w'.setCell ⟨b, 0, none⟩ (.int .i64 (rd l0 i % 4))).setCell ⟨b, 1, none⟩ (.int .i64 y)).setCell ⟨b, 2, none⟩ (.bool true)) (by go_simp) ?_
            intro w5 hw5
            rw [← hw5] at QK BK5 B5
            clear hw5 z0 z1 z2 f0 f1 f2 s1
            have HBK := Aside0.mk BK5
            have HB := Aside0.mk B5
            have HQ := Aside0.mk QK
            clear BK5 B5 QK
            have hc := (HB.out.cell (World.block_lt_of_cell? w _ HCW.out)).trans HCW.out
            go_wp2_with fail
            refine Quiet.start (fun w' => w'.heap[w.heap.size]? = some (.cells #[.int .i64 lie, .int .i64 pos, .bool true] 23) ∧ w'.heap[b]? = some (.cells #[.int .i64 (rd l0 i % 4), .int .i64 y, .bool true] 23) ∧ w'.cell? (ad.add i.toNat) = some (.int .i64 (rd l0 i))) (by kernel_rfl) (by kernel_rfl) (fun w' hw => ⟨blk_bel HBK.out hw, blk_bel HQ.out hw, Quiet.Bel.cellA hw hc⟩) (fun W6 hW6 hcell => ?_)
            repeat (first
              | go_big_quiet_skip
              | (go_big_quiet_want; go_big_quiet_op; go_big_quiet_on)
              | (refine Quiet.val _ _ (by rfl) (by (intro w' hC; obtain ⟨s0, s2, s1⟩ := hcell w' hC; have q0 : w'.cell? ⟨w.heap.size, 0, none⟩ = some (.int .i64 lie) := blk_cell s0 0; have q1 : w'.cell? ⟨w.heap.size, 1, none⟩ = some (.int .i64 pos) := blk_cell s0 1; have q2 : w'.cell? ⟨w.heap.size, 2, none⟩ = some (.bool true) := blk_cell s0 2; have p0 : w'.cell? ⟨b, 0, none⟩ = some (.int .i64 (rd l0 i % 4)) := blk_cell s2 0; have p1 : w'.cell? ⟨b, 1, none⟩ = some (.int .i64 y) := blk_cell s2 1; have p2 : w'.cell? ⟨b, 2, none⟩ = some (.bool true) := blk_cell s2 2; clear s0 s2; go_simp; with_reducible rfl)) (by (simp only [Act.put, List.setIfInBounds_toArray, List.set_cons_zero, List.set_cons_succ]; rfl)) ?_))
            refine Quiet.done ?_
            intro w6 hbel
            have HBK := Aside0.mk (blk_bel HBK.out (hW6.out ▸ hbel))
            have HQ := Aside0.mk (blk_bel HQ.out (hW6.out ▸ hbel))
            have HB := Aside0.mk (Quiet.Bel.out HB.out hW6 hbel)
            clear hbel hcell hc
            have hc := (HB.out.cell (World.block_lt_of_cell? w _ HCW.out)).trans HCW.out
            go_wp2_with fail
            refine Quiet.start (fun w' => w'.heap[w.heap.size]? = some (.cells #[.int .i64 lie, .int .i64 pos, .bool true] 23) ∧ w'.heap[b]? = some (.cells #[.int .i64 (rd l0 i % 4), .int .i64 y, .bool true] 23) ∧ w'.cell? (ad.add i.toNat) = some (.int .i64 (rd l0 i))) (by kernel_rfl) (by kernel_rfl) (fun w' hw => ⟨blk_bel HBK.out hw, blk_bel HQ.out hw, Quiet.Bel.cellA hw hc⟩) (fun W7 hW7 hcell => ?_)
            repeat (first
              | go_big_quiet_skip
              | (go_big_quiet_want; go_big_quiet_op; go_big_quiet_on)
              | (refine Quiet.val _ _ (by rfl) (by (intro w' hC; obtain ⟨s0, s2, s1⟩ := hcell w' hC; have q0 : w'.cell? ⟨w.heap.size, 0, none⟩ = some (.int .i64 lie) := blk_cell s0 0; have q1 : w'.cell? ⟨w.heap.size, 1, none⟩ = some (.int .i64 pos) := blk_cell s0 1; have q2 : w'.cell? ⟨w.heap.size, 2, none⟩ = some (.bool true) := blk_cell s0 2; have p0 : w'.cell? ⟨b, 0, none⟩ = some (.int .i64 (rd l0 i % 4)) := blk_cell s2 0; have p1 : w'.cell? ⟨b, 1, none⟩ = some (.int .i64 y) := blk_cell s2 1; have p2 : w'.cell? ⟨b, 2, none⟩ = some (.bool true) := blk_cell s2 2; clear s0 s2; go_simp; with_reducible rfl)) (by (simp only [Act.put, List.setIfInBounds_toArray, List.set_cons_zero, List.set_cons_succ]; rfl)) ?_))
            refine Quiet.done ?_
            intro w7 hbel
            have HBK := Aside0.mk (blk_bel HBK.out (hW7.out ▸ hbel))
            have HQ := Aside0.mk (blk_bel HQ.out (hW7.out ▸ hbel))
            have HB := Aside0.mk (Quiet.Bel.out HB.out hW7 hbel)
            clear hbel hcell hc
            have hc := (HB.out.cell (World.block_lt_of_cell? w _ HCW.out)).trans HCW.out
            have q0 : w7.cell? ⟨w.heap.size, 0, none⟩ = some (.int .i64 lie) := blk_cell HBK.out 0
            have q1 : w7.cell? ⟨w.heap.size, 1, none⟩ = some (.int .i64 pos) := blk_cell HBK.out 1
            have q2 : w7.cell? ⟨w.heap.size, 2, none⟩ = some (.bool true) := blk_cell HBK.out 2
            have p0 : w7.cell? ⟨b, 0, none⟩ = some (.int .i64 (rd l0 i % 4)) := blk_cell HQ.out 0
            have p1 : w7.cell? ⟨b, 1, none⟩ = some (.int .i64 y) := blk_cell HQ.out 1
            have p2 : w7.cell? ⟨b, 2, none⟩ = some (.bool true) := blk_cell HQ.out 2
            have f0 := Quiet.frozen_of HBK.out 0
            have f1 := Quiet.frozen_of HBK.out 1
            have f2 := Quiet.frozen_of HBK.out 2
            have e1 := HE.out
            have hne := Nat.ne_of_lt HNE.out
            go_wp2_with fail
            go_roundg k1
            case measure => omega
            case rel => exact ⟨i + 1, rd l0 i % 4, y, true, (by first | rfl | (simp; done) | (simp [*]; done)), ⟨by have := HI.out; exact ⟨by omega, HY.out⟩⟩, ⟨by have := HK.out; omega⟩, ⟨blk_put (blk_put (blk_put HBK.out 0 _ rfl) 1 _ rfl) 2 _ rfl⟩, ⟨by repeat (first | (with_reducible exact HB.out) | (with_reducible refine below_set ?_ (Nat.le_refl _)))⟩⟩
        · by_cases hp : -9223372036854775808 < pos
          · cases jump
            · obtain ⟨y, hy⟩ : ∃ y, y = posN ((gray4 (rd l0 i) - gray4 lie) % 4) pos := ⟨_, rfl⟩
              rw [hw] at hy
              have hy1 : y = pos + (-1) ∧ (-9223372036854775808 ≤ y ∧ y ≤ 9223372036854775807) := by
                rw [hy]
                unfold posN wrap64
                (repeat' split) <;> omega
              have HF := Aside0.mk (show pair_Step.f lie pos false (rd l0 i) = some (rd l0 i % 4, y, false) by simp only [pair_Step.f, hw, hy]; rfl)
              have HY := Aside0.mk hy1.2
              have t1 : (y == pos) = false := by simp; omega
              have t1b : (y != pos) = true := by simp; omega
              have t1c : decide (y = pos) = false := by simp; omega
              have t2 : wrap64 (y - pos) = -1 := by unfold wrap64; omega
              have t3 := Arith.and3 (rd l0 i)
              obtain ⟨m, hm⟩ : ∃ m, m = bits .and .i64 (bits .xor .i64 lie (rd l0 i)) 3 := ⟨_, rfl⟩
              have t4 : (m == 3) = false := by
                rw [hm, Arith.both3]
                rcases gray4_cases lie with ⟨g, u⟩ | ⟨g, u⟩ | ⟨g, u⟩ | ⟨g, u⟩ <;> rcases gray4_cases (rd l0 i) with ⟨g', u'⟩ | ⟨g', u'⟩ | ⟨g', u'⟩ | ⟨g', u'⟩ <;> rw [u, u'] <;> first | decide | (exfalso; rw [g, g'] at hw; revert hw; decide)
              replace hm := hm.symm
              clear hy hy1 hw
              go_wp2_with fail
              apply Quiet.tailA (S := fun w' => w'.heap[w.heap.size]? = some (.cells #[.int .i64 lie, .int .i64 pos, .bool false] 23) ∧ w'.cell? (ad.add i.toNat) = some (.int .i64 (rd l0 i))) (n := 7) (iA := 6) (d := 7) (ob := .cells #[.int .i64 0, .int .i64 0, .bool false] 23) (hm := by kernel_rfl) (hB := by kernel_rfl) (hiA := by omega) (hz := by kernel_rfl) (hS := fun w' hw => ⟨blk_bel HBK.out hw, Quiet.Bel.cellA hw hc⟩)
              case hA =>
                intro oA ho
                obtain rfl := Option.some.inj ho
                exact ⟨rfl, fun ρ w => by kernel_rfl⟩
              case h =>
                intro W1 hcell
                simp only [List.take_succ_cons, List.take_zero, List.eraseIdx_cons_succ, List.eraseIdx_cons_zero, List.drop_succ_cons, List.drop_zero]
                repeat (first
                  | go_big_quiet_skip
                  | (go_big_quiet_want; go_big_quiet_op; go_big_quiet_on)
                  | (refine Quiet.val _ _ (by rfl) (by (intro w' hC; obtain ⟨s0, s1⟩ := hcell w' hC; have q0 : w'.cell? ⟨w.heap.size, 0, none⟩ = some (.int .i64 lie) := blk_cell s0 0; have q1 : w'.cell? ⟨w.heap.size, 1, none⟩ = some (.int .i64 pos) := blk_cell s0 1; have q2 : w'.cell? ⟨w.heap.size, 2, none⟩ = some (.bool false) := blk_cell s0 2; clear s0; go_simp; with_reducible rfl)) (by (simp only [Act.put, List.setIfInBounds_toArray, List.set_cons_zero, List.set_cons_succ]; rfl)) ?_)
                  | (refine Quiet.call (args := #[.agg #[.int .i64 lie, .int .i64 pos, .bool false], .int .i64 (rd l0 i)]) _ _ (by rfl) (by rfl) Try.func15 (by kernel_rfl) rfl (by simp only [List.map_toArray, List.map_cons, List.map_nil]; rfl) (fun w' hC => pair_Step.calls lie pos false (rd l0 i) (rd l0 i % 4) y false _ HF.out) (by (simp only [Act.put, List.setIfInBounds_toArray, List.set_cons_zero, List.set_cons_succ]; rfl)) ?_))
                exact Quiet.done rfl
              intro W0 hW0 b w' hbel hS hb hob
              obtain ⟨s0, s1⟩ := hS
              have hle := hW0.le HB.out hb
              have hlt : w.heap.size < b := Nat.lt_of_lt_of_le (blk_lt HBK.out) (hW0.out ▸ hb)
              have z0 : w'.cell? ⟨b, 0, none⟩ = some (.int .i64 0) := Quiet.cell_of hob 0
              have f0 := Quiet.frozen_of hob 0
              have z1 : w'.cell? ⟨b, 1, none⟩ = some (.int .i64 0) := Quiet.cell_of hob 1
              have f1 := Quiet.frozen_of hob 1
              have z2 : w'.cell? ⟨b, 2, none⟩ = some (.bool false) := Quiet.cell_of hob 2
              have f2 := Quiet.frozen_of hob 2
              have QK := blk_put (blk_put (blk_put hob 0 (.int .i64 (rd l0 i % 4)) rfl) 1 (.int .i64 y) rfl) 2 (.bool false) rfl
              have BK5 := (Below.heap_setCell ((w'.setCell ⟨b, 0, none⟩ (.int .i64 (rd l0 i % 4))).setCell ⟨b, 1, none⟩ (.int .i64 y)) ⟨b, 2, none⟩ (.bool false) (w.heap.size) (Nat.ne_of_lt hlt)).trans ((Below.heap_setCell (w'.setCell ⟨b, 0, none⟩ (.int .i64 (rd l0 i % 4))) ⟨b, 1, none⟩ (.int .i64 y) (w.heap.size) (Nat.ne_of_lt hlt)).trans ((Below.heap_setCell w' ⟨b, 0, none⟩ (.int .i64 (rd l0 i % 4)) (w.heap.size) (Nat.ne_of_lt hlt)).trans s0))
              have B5 := Quiet.Bel.set (k := 2) (v := .bool false) (Quiet.Bel.set (k := 1) (v := .int .i64 y) (Quiet.Bel.set (k := 0) (v := .int .i64 (rd l0 i % 4)) (Quiet.Bel.out HB.out hW0 hbel) hle) hle) hle
              have HLE := Aside0.mk hle
              have HNE := Aside0.mk hlt
              simp only [List.take_succ_cons, List.take_zero, List.eraseIdx_cons_succ, List.eraseIdx_cons_zero, List.drop_succ_cons, List.drop_zero, Act.put, List.setIfInBounds_toArray, List.set_cons_zero, List.set_cons_succ]
              clear hbel hle hlt HBK HB hc s0 hb hob
              refine store_event rfl rfl rfl (w1 := ((w'.setCell ⟨b, 0, none⟩ (.int .i64 (rd l0 i % 4))).setCell ⟨b, 1, none⟩ (.int .i64 y)).setCell ⟨b, 2, none⟩ (.bool false)) (by go_simp) ?_
              intro w5 hw5
              rw [← hw5] at QK BK5 B5
              clear hw5 z0 z1 z2 f0 f1 f2 s1
              have HBK := Aside0.mk BK5
              have HB := Aside0.mk B5
              have HQ := Aside0.mk QK
              clear BK5 B5 QK
              have hc := (HB.out.cell (World.block_lt_of_cell? w _ HCW.out)).trans HCW.out
              go_wp2_with fail
              refine Quiet.start (fun w' => w'.heap[w.heap.size]? = some (.cells #[.int .i64 lie, .int .i64 pos, .bool false] 23) ∧ w'.heap[b]? = some (.cells #[.int .i64 (rd l0 i % 4), .int .i64 y, .bool false] 23) ∧ w'.cell? (ad.add i.toNat) = some (.int .i64 (rd l0 i))) (by kernel_rfl) (by kernel_rfl) (fun w' hw => ⟨blk_bel HBK.out hw, blk_bel HQ.out hw, Quiet.Bel.cellA hw hc⟩) (fun W6 hW6 hcell => ?_)
              repeat (first
                | go_big_quiet_skip
                | (go_big_quiet_want; go_big_quiet_op; go_big_quiet_on)
                | (refine Quiet.val _ _ (by rfl) (by (intro w' hC; obtain ⟨s0, s2, s1⟩ := hcell w' hC; have q0 : w'.cell? ⟨w.heap.size, 0, none⟩ = some (.int .i64 lie) := blk_cell s0 0; have q1 : w'.cell? ⟨w.heap.size, 1, none⟩ = some (.int .i64 pos) := blk_cell s0 1; have q2 : w'.cell? ⟨w.heap.size, 2, none⟩ = some (.bool false) := blk_cell s0 2; have p0 : w'.cell? ⟨b, 0, none⟩ = some (.int .i64 (rd l0 i % 4)) := blk_cell s2 0; have p1 : w'.cell? ⟨b, 1, none⟩ = some (.int .i64 y) := blk_cell s2 1; have p2 : w'.cell? ⟨b, 2, none⟩ = some (.bool false) := blk_cell s2 2; clear s0 s2; go_simp; with_reducible rfl)) (by (simp only [Act.put, List.setIfInBounds_toArray, List.set_cons_zero, List.set_cons_succ]; rfl)) ?_))
              refine Quiet.done ?_
              intro w6 hbel
              have HBK := Aside0.mk (blk_bel HBK.out (hW6.out ▸ hbel))
              have HQ := Aside0.mk (blk_bel HQ.out (hW6.out ▸ hbel))
              have HB := Aside0.mk (Quiet.Bel.out HB.out hW6 hbel)
              clear hbel hcell hc
              have hc := (HB.out.cell (World.block_lt_of_cell? w _ HCW.out)).trans HCW.out
              go_wp2_with fail
              refine Quiet.start (fun w' => w'.heap[w.heap.size]? = some (.cells #[.int .i64 lie, .int .i64 pos, .bool false] 23) ∧ w'.heap[b]? = some (.cells #[.int .i64 (rd l0 i % 4), .int .i64 y, .bool false] 23) ∧ w'.cell? (ad.add i.toNat) = some (.int .i64 (rd l0 i))) (by kernel_rfl) (by kernel_rfl) (fun w' hw => ⟨blk_bel HBK.out hw, blk_bel HQ.out hw, Quiet.Bel.cellA hw hc⟩) (fun W7 hW7 hcell => ?_)
              repeat (first
                | go_big_quiet_skip
                | (go_big_quiet_want; go_big_quiet_op; go_big_quiet_on)
                | (refine Quiet.val _ _ (by rfl) (by (intro w' hC; obtain ⟨s0, s2, s1⟩ := hcell w' hC; have q0 : w'.cell? ⟨w.heap.size, 0, none⟩ = some (.int .i64 lie) := blk_cell s0 0; have q1 : w'.cell? ⟨w.heap.size, 1, none⟩ = some (.int .i64 pos) := blk_cell s0 1; have q2 : w'.cell? ⟨w.heap.size, 2, none⟩ = some (.bool false) := blk_cell s0 2; have p0 : w'.cell? ⟨b, 0, none⟩ = some (.int .i64 (rd l0 i % 4)) := blk_cell s2 0; have p1 : w'.cell? ⟨b, 1, none⟩ = some (.int .i64 y) := blk_cell s2 1; have p2 : w'.cell? ⟨b, 2, none⟩ = some (.bool false) := blk_cell s2 2; clear s0 s2; go_simp; with_reducible rfl)) (by (simp only [Act.put, List.setIfInBounds_toArray, List.set_cons_zero, List.set_cons_succ]; rfl)) ?_))
              refine Quiet.done ?_
              intro w7 hbel
              have HBK := Aside0.mk (blk_bel HBK.out (hW7.out ▸ hbel))
              have HQ := Aside0.mk (blk_bel HQ.out (hW7.out ▸ hbel))
              have HB := Aside0.mk (Quiet.Bel.out HB.out hW7 hbel)
              clear hbel hcell hc
              have hc := (HB.out.cell (World.block_lt_of_cell? w _ HCW.out)).trans HCW.out
              have q0 : w7.cell? ⟨w.heap.size, 0, none⟩ = some (.int .i64 lie) := blk_cell HBK.out 0
              have q1 : w7.cell? ⟨w.heap.size, 1, none⟩ = some (.int .i64 pos) := blk_cell HBK.out 1
              have q2 : w7.cell? ⟨w.heap.size, 2, none⟩ = some (.bool false) := blk_cell HBK.out 2
              have p0 : w7.cell? ⟨b, 0, none⟩ = some (.int .i64 (rd l0 i % 4)) := blk_cell HQ.out 0
              have p1 : w7.cell? ⟨b, 1, none⟩ = some (.int .i64 y) := blk_cell HQ.out 1
              have p2 : w7.cell? ⟨b, 2, none⟩ = some (.bool false) := blk_cell HQ.out 2
              have f0 := Quiet.frozen_of HBK.out 0
              have f1 := Quiet.frozen_of HBK.out 1
              have f2 := Quiet.frozen_of HBK.out 2
              have e1 := HE.out
              have hne := Nat.ne_of_lt HNE.out
              go_wp2_with fail
              go_roundg k1
              case measure => omega
              case rel => exact ⟨i + 1, rd l0 i % 4, y, false, (by first | rfl | (simp; done) | (simp [*]; done)), ⟨by have := HI.out; exact ⟨by omega, HY.out⟩⟩, ⟨by have := HK.out; omega⟩, ⟨blk_put (blk_put (blk_put HBK.out 0 _ rfl) 1 _ rfl) 2 _ rfl⟩, ⟨by repeat (first | (with_reducible exact HB.out) | (with_reducible refine below_set ?_ (Nat.le_refl _)))⟩⟩
            · obtain ⟨y, hy⟩ : ∃ y, y = posN ((gray4 (rd l0 i) - gray4 lie) % 4) pos := ⟨_, rfl⟩
              rw [hw] at hy
              have hy1 : y = pos + (-1) ∧ (-9223372036854775808 ≤ y ∧ y ≤ 9223372036854775807) := by
                rw [hy]
                unfold posN wrap64
                (repeat' split) <;> omega
              have HF := Aside0.mk (show pair_Step.f lie pos true (rd l0 i) = some (rd l0 i % 4, y, true) by simp only [pair_Step.f, hw, hy]; rfl)
              have HY := Aside0.mk hy1.2
              have t1 : (y == pos) = false := by simp; omega
              have t1b : (y != pos) = true := by simp; omega
              have t1c : decide (y = pos) = false := by simp; omega
              have t2 : wrap64 (y - pos) = -1 := by unfold wrap64; omega
              have t3 := Arith.and3 (rd l0 i)
              obtain ⟨m, hm⟩ : ∃ m, m = bits .and .i64 (bits .xor .i64 lie (rd l0 i)) 3 := ⟨_, rfl⟩
              have t4 : (m == 3) = false := by
                rw [hm, Arith.both3]
                rcases gray4_cases lie with ⟨g, u⟩ | ⟨g, u⟩ | ⟨g, u⟩ | ⟨g, u⟩ <;> rcases gray4_cases (rd l0 i) with ⟨g', u'⟩ | ⟨g', u'⟩ | ⟨g', u'⟩ | ⟨g', u'⟩ <;> rw [u, u'] <;> first | decide | (exfalso; rw [g, g'] at hw; revert hw; decide)
              replace hm := hm.symm
              clear hy hy1 hw
              go_wp2_with fail
              apply Quiet.tailA (S := fun w' => w'.heap[w.heap.size]? = some (.cells #[.int .i64 lie, .int .i64 pos, .bool true] 23) ∧ w'.cell? (ad.add i.toNat) = some (.int .i64 (rd l0 i))) (n := 7) (iA := 6) (d := 7) (ob := .cells #[.int .i64 0, .int .i64 0, .bool false] 23) (hm := by kernel_rfl) (hB := by kernel_rfl) (hiA := by omega) (hz := by kernel_rfl) (hS := fun w' hw => ⟨blk_bel HBK.out hw, Quiet.Bel.cellA hw hc⟩)
              case hA =>
                intro oA ho
                obtain rfl := Option.some.inj ho
                exact ⟨rfl, fun ρ w => by kernel_rfl⟩
              case h =>
                intro W1 hcell
                simp only [List.take_succ_cons, List.take_zero, List.eraseIdx_cons_succ, List.eraseIdx_cons_zero, List.drop_succ_cons, List.drop_zero]
                repeat (first
                  | go_big_quiet_skip
                  | (go_big_quiet_want; go_big_quiet_op; go_big_quiet_on)
                  | (refine Quiet.val _ _ (by rfl) (by (intro w' hC; obtain ⟨s0, s1⟩ := hcell w' hC; have q0 : w'.cell? ⟨w.heap.size, 0, none⟩ = some (.int .i64 lie) := blk_cell s0 0; have q1 : w'.cell? ⟨w.heap.size, 1, none⟩ = some (.int .i64 pos) := blk_cell s0 1; have q2 : w'.cell? ⟨w.heap.size, 2, none⟩ = some (.bool true) := blk_cell s0 2; clear s0; go_simp; with_reducible rfl)) (by (simp only [Act.put, List.setIfInBounds_toArray, List.set_cons_zero, List.set_cons_succ]; rfl)) ?_)
                  | (refine Quiet.call (args := #[.agg #[.int .i64 lie, .int .i64 pos, .bool true], .int .i64 (rd l0 i)]) _ _ (by rfl) (by rfl) Try.func15 (by kernel_rfl) rfl (by simp only [List.map_toArray, List.map_cons, List.map_nil]; rfl) (fun w' hC => pair_Step.calls lie pos true (rd l0 i) (rd l0 i % 4) y true _ HF.out) (by (simp only [Act.put, List.setIfInBounds_toArray, List.set_cons_zero, List.set_cons_succ]; rfl)) ?_))
                exact Quiet.done rfl
              intro W0 hW0 b w' hbel hS hb hob
              obtain ⟨s0, s1⟩ := hS
              have hle := hW0.le HB.out hb
              have hlt : w.heap.size < b := Nat.lt_of_lt_of_le (blk_lt HBK.out) (hW0.out ▸ hb)
              have z0 : w'.cell? ⟨b, 0, none⟩ = some (.int .i64 0) := Quiet.cell_of hob 0
              have f0 := Quiet.frozen_of hob 0
              have z1 : w'.cell? ⟨b, 1, none⟩ = some (.int .i64 0) := Quiet.cell_of hob 1
              have f1 := Quiet.frozen_of hob 1
              have z2 : w'.cell? ⟨b, 2, none⟩ = some (.bool false) := Quiet.cell_of hob 2
              have f2 := Quiet.frozen_of hob 2
              have QK := blk_put (blk_put (blk_put hob 0 (.int .i64 (rd l0 i % 4)) rfl) 1 (.int .i64 y) rfl) 2 (.bool true) rfl
              have BK5 := (Below.heap_setCell ((w'.setCell ⟨b, 0, none⟩ (.int .i64 (rd l0 i % 4))).setCell ⟨b, 1, none⟩ (.int .i64 y)) ⟨b, 2, none⟩ (.bool true) (w.heap.size) (Nat.ne_of_lt hlt)).trans ((Below.heap_setCell (w'.setCell ⟨b, 0, none⟩ (.int .i64 (rd l0 i % 4))) ⟨b, 1, none⟩ (.int .i64 y) (w.heap.size) (Nat.ne_of_lt hlt)).trans ((Below.heap_setCell w' ⟨b, 0, none⟩ (.int .i64 (rd l0 i % 4)) (w.heap.size) (Nat.ne_of_lt hlt)).trans s0))
              have B5 := Quiet.Bel.set (k := 2) (v := .bool true) (Quiet.Bel.set (k := 1) (v := .int .i64 y) (Quiet.Bel.set (k := 0) (v := .int .i64 (rd l0 i % 4)) (Quiet.Bel.out HB.out hW0 hbel) hle) hle) hle
              have HLE := Aside0.mk hle
              have HNE := Aside0.mk hlt
              simp only [List.take_succ_cons, List.take_zero, List.eraseIdx_cons_succ, List.eraseIdx_cons_zero, List.drop_succ_cons, List.drop_zero, Act.put, List.setIfInBounds_toArray, List.set_cons_zero, List.set_cons_succ]
              clear hbel hle hlt HBK HB hc s0 hb hob
              refine store_event rfl rfl rfl (w1 := ((w'.setCell ⟨b, 0, none⟩ (.int .i64 (rd l0 i % 4))).setCell ⟨b, 1, none⟩ (.int .i64 y)).setCell ⟨b, 2, none⟩ (.bool true)) (by go_simp) ?_
              intro w5 hw5
              rw [← hw5] at QK BK5 B5
              clear hw5 z0 z1 z2 f0 f1 f2 s1
              have HBK := Aside0.mk BK5
              have HB := Aside0.mk B5
              have HQ := Aside0.mk QK
              clear BK5 B5 QK
              have hc := (HB.out.cell (World.block_lt_of_cell? w _ HCW.out)).trans HCW.out
              go_wp2_with fail
              refine Quiet.start (fun w' => w'.heap[w.heap.size]? = some (.cells #[.int .i64 lie, .int .i64 pos, .bool true] 23) ∧ w'.heap[b]? = some (.cells #[.int .i64 (rd l0 i % 4), .int .i64 y, .bool true] 23) ∧ w'.cell? (ad.add i.toNat) = some (.int .i64 (rd l0 i))) (by kernel_rfl) (by kernel_rfl) (fun w' hw => ⟨blk_bel HBK.out hw, blk_bel HQ.out hw, Quiet.Bel.cellA hw hc⟩) (fun W6 hW6 hcell => ?_)
              repeat (first
                | go_big_quiet_skip
                | (go_big_quiet_want; go_big_quiet_op; go_big_quiet_on)
                | (refine Quiet.val _ _ (by rfl) (by (intro w' hC; obtain ⟨s0, s2, s1⟩ := hcell w' hC; have q0 : w'.cell? ⟨w.heap.size, 0, none⟩ = some (.int .i64 lie) := blk_cell s0 0; have q1 : w'.cell? ⟨w.heap.size, 1, none⟩ = some (.int .i64 pos) := blk_cell s0 1; have q2 : w'.cell? ⟨w.heap.size, 2, none⟩ = some (.bool true) := blk_cell s0 2; have p0 : w'.cell? ⟨b, 0, none⟩ = some (.int .i64 (rd l0 i % 4)) := blk_cell s2 0; have p1 : w'.cell? ⟨b, 1, none⟩ = some (.int .i64 y) := blk_cell s2 1; have p2 : w'.cell? ⟨b, 2, none⟩ = some (.bool true) := blk_cell s2 2; clear s0 s2; go_simp; with_reducible rfl)) (by (simp only [Act.put, List.setIfInBounds_toArray, List.set_cons_zero, List.set_cons_succ]; rfl)) ?_))
              refine Quiet.done ?_
              intro w6 hbel
              have HBK := Aside0.mk (blk_bel HBK.out (hW6.out ▸ hbel))
              have HQ := Aside0.mk (blk_bel HQ.out (hW6.out ▸ hbel))
              have HB := Aside0.mk (Quiet.Bel.out HB.out hW6 hbel)
              clear hbel hcell hc
              have hc := (HB.out.cell (World.block_lt_of_cell? w _ HCW.out)).trans HCW.out
              go_wp2_with fail
              refine Quiet.start (fun w' => w'.heap[w.heap.size]? = some (.cells #[.int .i64 lie, .int .i64 pos, .bool true] 23) ∧ w'.heap[b]? = some (.cells #[.int .i64 (rd l0 i % 4), .int .i64 y, .bool true] 23) ∧ w'.cell? (ad.add i.toNat) = some (.int .i64 (rd l0 i))) (by kernel_rfl) (by kernel_rfl) (fun w' hw => ⟨blk_bel HBK.out hw, blk_bel HQ.out hw, Quiet.Bel.cellA hw hc⟩) (fun W7 hW7 hcell => ?_)
              repeat (first
                | go_big_quiet_skip
                | (go_big_quiet_want; go_big_quiet_op; go_big_quiet_on)
                | (refine Quiet.val _ _ (by rfl) (by (intro w' hC; obtain ⟨s0, s2, s1⟩ := hcell w' hC; have q0 : w'.cell? ⟨w.heap.size, 0, none⟩ = some (.int .i64 lie) := blk_cell s0 0; have q1 : w'.cell? ⟨w.heap.size, 1, none⟩ = some (.int .i64 pos) := blk_cell s0 1; have q2 : w'.cell? ⟨w.heap.size, 2, none⟩ = some (.bool true) := blk_cell s0 2; have p0 : w'.cell? ⟨b, 0, none⟩ = some (.int .i64 (rd l0 i % 4)) := blk_cell s2 0; have p1 : w'.cell? ⟨b, 1, none⟩ = some (.int .i64 y) := blk_cell s2 1; have p2 : w'.cell? ⟨b, 2, none⟩ = some (.bool true) := blk_cell s2 2; clear s0 s2; go_simp; with_reducible rfl)) (by (simp only [Act.put, List.setIfInBounds_toArray, List.set_cons_zero, List.set_cons_succ]; rfl)) ?_))
              refine Quiet.done ?_
              intro w7 hbel
              have HBK := Aside0.mk (blk_bel HBK.out (hW7.out ▸ hbel))
              have HQ := Aside0.mk (blk_bel HQ.out (hW7.out ▸ hbel))
              have HB := Aside0.mk (Quiet.Bel.out HB.out hW7 hbel)
              clear hbel hcell hc
              have hc := (HB.out.cell (World.block_lt_of_cell? w _ HCW.out)).trans HCW.out
              have q0 : w7.cell? ⟨w.heap.size, 0, none⟩ = some (.int .i64 lie) := blk_cell HBK.out 0
              have q1 : w7.cell? ⟨w.heap.size, 1, none⟩ = some (.int .i64 pos) := blk_cell HBK.out 1
              have q2 : w7.cell? ⟨w.heap.size, 2, none⟩ = some (.bool true) := blk_cell HBK.out 2
              have p0 : w7.cell? ⟨b, 0, none⟩ = some (.int .i64 (rd l0 i % 4)) := blk_cell HQ.out 0
              have p1 : w7.cell? ⟨b, 1, none⟩ = some (.int .i64 y) := blk_cell HQ.out 1
              have p2 : w7.cell? ⟨b, 2, none⟩ = some (.bool true) := blk_cell HQ.out 2
              have f0 := Quiet.frozen_of HBK.out 0
              have f1 := Quiet.frozen_of HBK.out 1
              have f2 := Quiet.frozen_of HBK.out 2
              have e1 := HE.out
              have hne := Nat.ne_of_lt HNE.out
              go_wp2_with fail
              go_roundg k1
              case measure => omega
              case rel => exact ⟨i + 1, rd l0 i % 4, y, true, (by first | rfl | (simp; done) | (simp [*]; done)), ⟨by have := HI.out; exact ⟨by omega, HY.out⟩⟩, ⟨by have := HK.out; omega⟩, ⟨blk_put (blk_put (blk_put HBK.out 0 _ rfl) 1 _ rfl) 2 _ rfl⟩, ⟨by repeat (first | (with_reducible exact HB.out) | (with_reducible refine below_set ?_ (Nat.le_refl _)))⟩⟩
          · cases jump
            · obtain ⟨y, hy⟩ : ∃ y, y = posN ((gray4 (rd l0 i) - gray4 lie) % 4) pos := ⟨_, rfl⟩
              rw [hw] at hy
              have hy1 : y = pos + (0) ∧ (-9223372036854775808 ≤ y ∧ y ≤ 9223372036854775807) := by
                rw [hy]
                unfold posN wrap64
                (repeat' split) <;> omega
              have HF := Aside0.mk (show pair_Step.f lie pos false (rd l0 i) = some (rd l0 i % 4, y, false) by simp only [pair_Step.f, hw, hy]; rfl)
              have HY := Aside0.mk hy1.2
              have t1 : (y == pos) = true := by simp; omega
              have t1b : (y != pos) = false := by simp; omega
              have t1c : decide (y = pos) = true := by simp; omega
              have t2 : wrap64 (y - pos) = 0 := by unfold wrap64; omega
              have t3 := Arith.and3 (rd l0 i)
              obtain ⟨m, hm⟩ : ∃ m, m = bits .and .i64 (bits .xor .i64 lie (rd l0 i)) 3 := ⟨_, rfl⟩
              have t4 : (m == 3) = false := by
                rw [hm, Arith.both3]
                rcases gray4_cases lie with ⟨g, u⟩ | ⟨g, u⟩ | ⟨g, u⟩ | ⟨g, u⟩ <;> rcases gray4_cases (rd l0 i) with ⟨g', u'⟩ | ⟨g', u'⟩ | ⟨g', u'⟩ | ⟨g', u'⟩ <;> rw [u, u'] <;> first | decide | (exfalso; rw [g, g'] at hw; revert hw; decide)
              replace hm := hm.symm
              clear hy hy1 hw
              go_wp2_with fail
              apply Quiet.tailA (S := fun w' => w'.heap[w.heap.size]? = some (.cells #[.int .i64 lie, .int .i64 pos, .bool false] 23) ∧ w'.cell? (ad.add i.toNat) = some (.int .i64 (rd l0 i))) (n := 7) (iA := 6) (d := 7) (ob := .cells #[.int .i64 0, .int .i64 0, .bool false] 23) (hm := by kernel_rfl) (hB := by kernel_rfl) (hiA := by omega) (hz := by kernel_rfl) (hS := fun w' hw => ⟨blk_bel HBK.out hw, Quiet.Bel.cellA hw hc⟩)
              case hA =>
                intro oA ho
                obtain rfl := Option.some.inj ho
                exact ⟨rfl, fun ρ w => by kernel_rfl⟩
              case h =>
                intro W1 hcell
                simp only [List.take_succ_cons, List.take_zero, List.eraseIdx_cons_succ, List.eraseIdx_cons_zero, List.drop_succ_cons, List.drop_zero]
                repeat (first
                  | go_big_quiet_skip
                  | (go_big_quiet_want; go_big_quiet_op; go_big_quiet_on)
                  | (refine Quiet.val _ _ (by rfl) (by (intro w' hC; obtain ⟨s0, s1⟩ := hcell w' hC; have q0 : w'.cell? ⟨w.heap.size, 0, none⟩ = some (.int .i64 lie) := blk_cell s0 0; have q1 : w'.cell? ⟨w.heap.size, 1, none⟩ = some (.int .i64 pos) := blk_cell s0 1; have q2 : w'.cell? ⟨w.heap.size, 2, none⟩ = some (.bool false) := blk_cell s0 2; clear s0; go_simp; with_reducible rfl)) (by (simp only [Act.put, List.setIfInBounds_toArray, List.set_cons_zero, List.set_cons_succ]; rfl)) ?_)
                  | (refine Quiet.call (args := #[.agg #[.int .i64 lie, .int .i64 pos, .bool false], .int .i64 (rd l0 i)]) _ _ (by rfl) (by rfl) Try.func15 (by kernel_rfl) rfl (by simp only [List.map_toArray, List.map_cons, List.map_nil]; rfl) (fun w' hC => pair_Step.calls lie pos false (rd l0 i) (rd l0 i % 4) y false _ HF.out) (by (simp only [Act.put, List.setIfInBounds_toArray, List.set_cons_zero, List.set_cons_succ]; rfl)) ?_))
                exact Quiet.done rfl
              intro W0 hW0 b w' hbel hS hb hob
              obtain ⟨s0, s1⟩ := hS
              have hle := hW0.le HB.out hb
              have hlt : w.heap.size < b := Nat.lt_of_lt_of_le (blk_lt HBK.out) (hW0.out ▸ hb)
              have z0 : w'.cell? ⟨b, 0, none⟩ = some (.int .i64 0) := Quiet.cell_of hob 0
              have f0 := Quiet.frozen_of hob 0
              have z1 : w'.cell? ⟨b, 1, none⟩ = some (.int .i64 0) := Quiet.cell_of hob 1
              have f1 := Quiet.frozen_of hob 1
              have z2 : w'.cell? ⟨b, 2, none⟩ = some (.bool false) := Quiet.cell_of hob 2
              have f2 := Quiet.frozen_of hob 2
              have QK := blk_put (blk_put (blk_put hob 0 (.int .i64 (rd l0 i % 4)) rfl) 1 (.int .i64 y) rfl) 2 (.bool false) rfl
              have BK5 := (Below.heap_setCell ((w'.setCell ⟨b, 0, none⟩ (.int .i64 (rd l0 i % 4))).setCell ⟨b, 1, none⟩ (.int .i64 y)) ⟨b, 2, none⟩ (.bool false) (w.heap.size) (Nat.ne_of_lt hlt)).trans ((Below.heap_setCell (w'.setCell ⟨b, 0, none⟩ (.int .i64 (rd l0 i % 4))) ⟨b, 1, none⟩ (.int .i64 y) (w.heap.size) (Nat.ne_of_lt hlt)).trans ((Below.heap_setCell w' ⟨b, 0, none⟩ (.int .i64 (rd l0 i % 4)) (w.heap.size) (Nat.ne_of_lt hlt)).trans s0))
              have B5 := Quiet.Bel.set (k := 2) (v := .bool false) (Quiet.Bel.set (k := 1) (v := .int .i64 y) (Quiet.Bel.set (k := 0) (v := .int .i64 (rd l0 i % 4)) (Quiet.Bel.out HB.out hW0 hbel) hle) hle) hle
              have HLE := Aside0.mk hle
              have HNE := Aside0.mk hlt
              simp only [List.take_succ_cons, List.take_zero, List.eraseIdx_cons_succ, List.eraseIdx_cons_zero, List.drop_succ_cons, List.drop_zero, Act.put, List.setIfInBounds_toArray, List.set_cons_zero, List.set_cons_succ]
              clear hbel hle hlt HBK HB hc s0 hb hob
              refine store_event rfl rfl rfl (w1 := ((w'.setCell ⟨b, 0, none⟩ (.int .i64 (rd l0 i % 4))).setCell ⟨b, 1, none⟩ (.int .i64 y)).setCell ⟨b, 2, none⟩ (.bool false)) (by go_simp) ?_
              intro w5 hw5
              rw [← hw5] at QK BK5 B5
              clear hw5 z0 z1 z2 f0 f1 f2 s1
              have HBK := Aside0.mk BK5
              have HB := Aside0.mk B5
              have HQ := Aside0.mk QK
              clear BK5 B5 QK
              have hc := (HB.out.cell (World.block_lt_of_cell? w _ HCW.out)).trans HCW.out
              go_wp2_with fail
              refine Quiet.start (fun w' => w'.heap[w.heap.size]? = some (.cells #[.int .i64 lie, .int .i64 pos, .bool false] 23) ∧ w'.heap[b]? = some (.cells #[.int .i64 (rd l0 i % 4), .int .i64 y, .bool false] 23) ∧ w'.cell? (ad.add i.toNat) = some (.int .i64 (rd l0 i))) (by kernel_rfl) (by kernel_rfl) (fun w' hw => ⟨blk_bel HBK.out hw, blk_bel HQ.out hw, Quiet.Bel.cellA hw hc⟩) (fun W6 hW6 hcell => ?_)
              repeat (first
                | go_big_quiet_skip
                | (go_big_quiet_want; go_big_quiet_op; go_big_quiet_on)
                | (refine Quiet.val _ _ (by rfl) (by (intro w' hC; obtain ⟨s0, s2, s1⟩ := hcell w' hC; have q0 : w'.cell? ⟨w.heap.size, 0, none⟩ = some (.int .i64 lie) := blk_cell s0 0; have q1 : w'.cell? ⟨w.heap.size, 1, none⟩ = some (.int .i64 pos) := blk_cell s0 1; have q2 : w'.cell? ⟨w.heap.size, 2, none⟩ = some (.bool false) := blk_cell s0 2; have p0 : w'.cell? ⟨b, 0, none⟩ = some (.int .i64 (rd l0 i % 4)) := blk_cell s2 0; have p1 : w'.cell? ⟨b, 1, none⟩ = some (.int .i64 y) := blk_cell s2 1; have p2 : w'.cell? ⟨b, 2, none⟩ = some (.bool false) := blk_cell s2 2; clear s0 s2; go_simp; with_reducible rfl)) (by (simp only [Act.put, List.setIfInBounds_toArray, List.set_cons_zero, List.set_cons_succ]; rfl)) ?_))
              refine Quiet.done ?_
              intro w6 hbel
              have HBK := Aside0.mk (blk_bel HBK.out (hW6.out ▸ hbel))
              have HQ := Aside0.mk (blk_bel HQ.out (hW6.out ▸ hbel))
              have HB := Aside0.mk (Quiet.Bel.out HB.out hW6 hbel)
              clear hbel hcell hc
              have hc := (HB.out.cell (World.block_lt_of_cell? w _ HCW.out)).trans HCW.out
              go_wp2_with fail
              refine Quiet.start (fun w' => w'.heap[w.heap.size]? = some (.cells #[.int .i64 lie, .int .i64 pos, .bool false] 23) ∧ w'.heap[b]? = some (.cells #[.int .i64 (rd l0 i % 4), .int .i64 y, .bool false] 23) ∧ w'.cell? (ad.add i.toNat) = some (.int .i64 (rd l0 i))) (by kernel_rfl) (by kernel_rfl) (fun w' hw => ⟨blk_bel HBK.out hw, blk_bel HQ.out hw, Quiet.Bel.cellA hw hc⟩) (fun W7 hW7 hcell => ?_)
              repeat (first
                | go_big_quiet_skip
                | (go_big_quiet_want; go_big_quiet_op; go_big_quiet_on)
                | (refine Quiet.val _ _ (by rfl) (by (intro w' hC; obtain ⟨s0, s2, s1⟩ := hcell w' hC; have q0 : w'.cell? ⟨w.heap.size, 0, none⟩ = some (.int .i64 lie) := blk_cell s0 0; have q1 : w'.cell? ⟨w.heap.size, 1, none⟩ = some (.int .i64 pos) := blk_cell s0 1; have q2 : w'.cell? ⟨w.heap.size, 2, none⟩ = some (.bool false) := blk_cell s0 2; have p0 : w'.cell? ⟨b, 0, none⟩ = some (.int .i64 (rd l0 i % 4)) := blk_cell s2 0; have p1 : w'.cell? ⟨b, 1, none⟩ = some (.int .i64 y) := blk_cell s2 1; have p2 : w'.cell? ⟨b, 2, none⟩ = some (.bool false) := blk_cell s2 2; clear s0 s2; go_simp; with_reducible rfl)) (by (simp only [Act.put, List.setIfInBounds_toArray, List.set_cons_zero, List.set_cons_succ]; rfl)) ?_))
              refine Quiet.done ?_
              intro w7 hbel
              have HBK := Aside0.mk (blk_bel HBK.out (hW7.out ▸ hbel))
              have HQ := Aside0.mk (blk_bel HQ.out (hW7.out ▸ hbel))
              have HB := Aside0.mk (Quiet.Bel.out HB.out hW7 hbel)
              clear hbel hcell hc
              have hc := (HB.out.cell (World.block_lt_of_cell? w _ HCW.out)).trans HCW.out
              have q0 : w7.cell? ⟨w.heap.size, 0, none⟩ = some (.int .i64 lie) := blk_cell HBK.out 0
              have q1 : w7.cell? ⟨w.heap.size, 1, none⟩ = some (.int .i64 pos) := blk_cell HBK.out 1
              have q2 : w7.cell? ⟨w.heap.size, 2, none⟩ = some (.bool false) := blk_cell HBK.out 2
              have p0 : w7.cell? ⟨b, 0, none⟩ = some (.int .i64 (rd l0 i % 4)) := blk_cell HQ.out 0
              have p1 : w7.cell? ⟨b, 1, none⟩ = some (.int .i64 y) := blk_cell HQ.out 1
              have p2 : w7.cell? ⟨b, 2, none⟩ = some (.bool false) := blk_cell HQ.out 2
              have f0 := Quiet.frozen_of HBK.out 0
              have f1 := Quiet.frozen_of HBK.out 1
              have f2 := Quiet.frozen_of HBK.out 2
              have e1 := HE.out
              have hne := Nat.ne_of_lt HNE.out
              go_wp2_with fail
              go_roundg k1
              case measure => omega
              case rel => exact ⟨i + 1, rd l0 i % 4, y, false, (by first | rfl | (simp; done) | (simp [*]; done)), ⟨by have := HI.out; exact ⟨by omega, HY.out⟩⟩, ⟨by have := HK.out; omega⟩, ⟨blk_put (blk_put (blk_put HBK.out 0 _ rfl) 1 _ rfl) 2 _ rfl⟩, ⟨by repeat (first | (with_reducible exact HB.out) | (with_reducible refine below_set ?_ (Nat.le_refl _)))⟩⟩
            · obtain ⟨y, hy⟩ : ∃ y, y = posN ((gray4 (rd l0 i) - gray4 lie) % 4) pos := ⟨_, rfl⟩
              rw [hw] at hy
              have hy1 : y = pos + (0) ∧ (-9223372036854775808 ≤ y ∧ y ≤ 9223372036854775807) := by
                rw [hy]
                unfold posN wrap64
                (repeat' split) <;> omega
              have HF := Aside0.mk (show pair_Step.f lie pos true (rd l0 i) = some (rd l0 i % 4, y, true) by simp only [pair_Step.f, hw, hy]; rfl)
              have HY := Aside0.mk hy1.2
              have t1 : (y == pos) = true := by simp; omega
              have t1b : (y != pos) = false := by simp; omega
              have t1c : decide (y = pos) = true := by simp; omega
              have t2 : wrap64 (y - pos) = 0 := by unfold wrap64; omega
              have t3 := Arith.and3 (rd l0 i)
              obtain ⟨m, hm⟩ : ∃ m, m = bits .and .i64 (bits .xor .i64 lie (rd l0 i)) 3 := ⟨_, rfl⟩
              have t4 : (m == 3) = false := by
                rw [hm, Arith.both3]
                rcases gray4_cases lie with ⟨g, u⟩ | ⟨g, u⟩ | ⟨g, u⟩ | ⟨g, u⟩ <;> rcases gray4_cases (rd l0 i) with ⟨g', u'⟩ | ⟨g', u'⟩ | ⟨g', u'⟩ | ⟨g', u'⟩ <;> rw [u, u'] <;> first | decide | (exfalso; rw [g, g'] at hw; revert hw; decide)
              replace hm := hm.symm
              clear hy hy1 hw
              go_wp2_with fail
              apply Quiet.tailA (S := fun w' => w'.heap[w.heap.size]? = some (.cells #[.int .i64 lie, .int .i64 pos, .bool true] 23) ∧ w'.cell? (ad.add i.toNat) = some (.int .i64 (rd l0 i))) (n := 7) (iA := 6) (d := 7) (ob := .cells #[.int .i64 0, .int .i64 0, .bool false] 23) (hm := by kernel_rfl) (hB := by kernel_rfl) (hiA := by omega) (hz := by kernel_rfl) (hS := fun w' hw => ⟨blk_bel HBK.out hw, Quiet.Bel.cellA hw hc⟩)
              case hA =>
                intro oA ho
                obtain rfl := Option.some.inj ho
                exact ⟨rfl, fun ρ w => by kernel_rfl⟩
              case h =>
                intro W1 hcell
                simp only [List.take_succ_cons, List.take_zero, List.eraseIdx_cons_succ, List.eraseIdx_cons_zero, List.drop_succ_cons, List.drop_zero]
                repeat (first
                  | go_big_quiet_skip
                  | (go_big_quiet_want; go_big_quiet_op; go_big_quiet_on)
                  | (refine Quiet.val _ _ (by rfl) (by (intro w' hC; obtain ⟨s0, s1⟩ := hcell w' hC; have q0 : w'.cell? ⟨w.heap.size, 0, none⟩ = some (.int .i64 lie) := blk_cell s0 0; have q1 : w'.cell? ⟨w.heap.size, 1, none⟩ = some (.int .i64 pos) := blk_cell s0 1; have q2 : w'.cell? ⟨w.heap.size, 2, none⟩ = some (.bool true) := blk_cell s0 2; clear s0; go_simp; with_reducible rfl)) (by (simp only [Act.put, List.setIfInBounds_toArray, List.set_cons_zero, List.set_cons_succ]; rfl)) ?_)
                  | (refine Quiet.call (args := #[.agg #[.int .i64 lie, .int .i64 pos, .bool true], .int .i64 (rd l0 i)]) _ _ (by rfl) (by rfl) Try.func15 (by kernel_rfl) rfl (by simp only [List.map_toArray, List.map_cons, List.map_nil]; rfl) (fun w' hC => pair_Step.calls lie pos true (rd l0 i) (rd l0 i % 4) y true _ HF.out) (by (simp only [Act.put, List.setIfInBounds_toArray, List.set_cons_zero, List.set_cons_succ]; rfl)) ?_))
                exact Quiet.done rfl
              intro W0 hW0 b w' hbel hS hb hob
              obtain ⟨s0, s1⟩ := hS
              have hle := hW0.le HB.out hb
              have hlt : w.heap.size < b := Nat.lt_of_lt_of_le (blk_lt HBK.out) (hW0.out ▸ hb)
              have z0 : w'.cell? ⟨b, 0, none⟩ = some (.int .i64 0) := Quiet.cell_of hob 0
              have f0 := Quiet.frozen_of hob 0
              have z1 : w'.cell? ⟨b, 1, none⟩ = some (.int .i64 0) := Quiet.cell_of hob 1
              have f1 := Quiet.frozen_of hob 1
              have z2 : w'.cell? ⟨b, 2, none⟩ = some (.bool false) := Quiet.cell_of hob 2
              have f2 := Quiet.frozen_of hob 2
              have QK := blk_put (blk_put (blk_put hob 0 (.int .i64 (rd l0 i % 4)) rfl) 1 (.int .i64 y) rfl) 2 (.bool true) rfl
              have BK5 := (Below.heap_setCell ((w'.setCell ⟨b, 0, none⟩ (.int .i64 (rd l0 i % 4))).setCell ⟨b, 1, none⟩ (.int .i64 y)) ⟨b, 2, none⟩ (.bool true) (w.heap.size) (Nat.ne_of_lt hlt)).trans ((Below.heap_setCell (w'.setCell ⟨b, 0, none⟩ (.int .i64 (rd l0 i % 4))) ⟨b, 1, none⟩ (.int .i64 y) (w.heap.size) (Nat.ne_of_lt hlt)).trans ((Below.heap_setCell w' ⟨b, 0, none⟩ (.int .i64 (rd l0 i % 4)) (w.heap.size) (Nat.ne_of_lt hlt)).trans s0))
              have B5 := Quiet.Bel.set (k := 2) (v := .bool true) (Quiet.Bel.set (k := 1) (v := .int .i64 y) (Quiet.Bel.set (k := 0) (v := .int .i64 (rd l0 i % 4)) (Quiet.Bel.out HB.out hW0 hbel) hle) hle) hle
              have HLE := Aside0.mk hle
              have HNE := Aside0.mk hlt
              simp only [List.take_succ_cons, List.take_zero, List.eraseIdx_cons_succ, List.eraseIdx_cons_zero, List.drop_succ_cons, List.drop_zero, Act.put, List.setIfInBounds_toArray, List.set_cons_zero, List.set_cons_succ]
              clear hbel hle hlt HBK HB hc s0 hb hob
              refine store_event rfl rfl rfl (w1 := ((w'.setCell ⟨b, 0, none⟩ (.int .i64 (rd l0 i % 4))).setCell ⟨b, 1, none⟩ (.int .i64 y)).setCell ⟨b, 2, none⟩ (.bool true)) (by go_simp) ?_
              intro w5 hw5
              rw [← hw5] at QK BK5 B5
              clear hw5 z0 z1 z2 f0 f1 f2 s1
              have HBK := Aside0.mk BK5
              have HB := Aside0.mk B5
              have HQ := Aside0.mk QK
              clear BK5 B5 QK
              have hc := (HB.out.cell (World.block_lt_of_cell? w _ HCW.out)).trans HCW.out
              go_wp2_with fail
              refine Quiet.start (fun w' => w'.heap[w.heap.size]? = some (.cells #[.int .i64 lie, .int .i64 pos, .bool true] 23) ∧ w'.heap[b]? = some (.cells #[.int .i64 (rd l0 i % 4), .int .i64 y, .bool true] 23) ∧ w'.cell? (ad.add i.toNat) = some (.int .i64 (rd l0 i))) (by kernel_rfl) (by kernel_rfl) (fun w' hw => ⟨blk_bel HBK.out hw, blk_bel HQ.out hw, Quiet.Bel.cellA hw hc⟩) (fun W6 hW6 hcell => ?_)
              repeat (first
                | go_big_quiet_skip
                | (go_big_quiet_want; go_big_quiet_op; go_big_quiet_on)
                | (refine Quiet.val _ _ (by rfl) (by (intro w' hC; obtain ⟨s0, s2, s1⟩ := hcell w' hC; have q0 : w'.cell? ⟨w.heap.size, 0, none⟩ = some (.int .i64 lie) := blk_cell s0 0; have q1 : w'.cell? ⟨w.heap.size, 1, none⟩ = some (.int .i64 pos) := blk_cell s0 1; have q2 : w'.cell? ⟨w.heap.size, 2, none⟩ = some (.bool true) := blk_cell s0 2; have p0 : w'.cell? ⟨b, 0, none⟩ = some (.int .i64 (rd l0 i % 4)) := blk_cell s2 0; have p1 : w'.cell? ⟨b, 1, none⟩ = some (.int .i64 y) := blk_cell s2 1; have p2 : w'.cell? ⟨b, 2, none⟩ = some (.bool true) := blk_cell s2 2; clear s0 s2; go_simp; with_reducible rfl)) (by (simp only [Act.put, List.setIfInBounds_toArray, List.set_cons_zero, List.set_cons_succ]; rfl)) ?_))
              refine Quiet.done ?_
              intro w6 hbel
              have HBK := Aside0.mk (blk_bel HBK.out (hW6.out ▸ hbel))
              have HQ := Aside0.mk (blk_bel HQ.out (hW6.out ▸ hbel))
              have HB := Aside0.mk (Quiet.Bel.out HB.out hW6 hbel)
              clear hbel hcell hc
              have hc := (HB.out.cell (World.block_lt_of_cell? w _ HCW.out)).trans HCW.out
              go_wp2_with fail
              refine Quiet.start (fun w' => w'.heap[w.heap.size]? = some (.cells #[.int .i64 lie, .int .i64 pos, .bool true] 23) ∧ w'.heap[b]? = some (.cells #[.int .i64 (rd l0 i % 4), .int .i64 y, .bool true] 23) ∧ w'.cell? (ad.add i.toNat) = some (.int .i64 (rd l0 i))) (by kernel_rfl) (by kernel_rfl) (fun w' hw => ⟨blk_bel HBK.out hw, blk_bel HQ.out hw, Quiet.Bel.cellA hw hc⟩) (fun W7 hW7 hcell => ?_)
              repeat (first
                | go_big_quiet_skip
                | (go_big_quiet_want; go_big_quiet_op; go_big_quiet_on)
                | (refine Quiet.val _ _ (by rfl) (by (intro w' hC; obtain ⟨s0, s2, s1⟩ := hcell w' hC; have q0 : w'.cell? ⟨w.heap.size, 0, none⟩ = some (.int .i64 lie) := blk_cell s0 0; have q1 : w'.cell? ⟨w.heap.size, 1, none⟩ = some (.int .i64 pos) := blk_cell s0 1; have q2 : w'.cell? ⟨w.heap.size, 2, none⟩ = some (.bool true) := blk_cell s0 2; have p0 : w'.cell? ⟨b, 0, none⟩ = some (.int .i64 (rd l0 i % 4)) := blk_cell s2 0; have p1 : w'.cell? ⟨b, 1, none⟩ = some (.int .i64 y) := blk_cell s2 1; have p2 : w'.cell? ⟨b, 2, none⟩ = some (.bool true) := blk_cell s2 2; clear s0 s2; go_simp; with_reducible rfl)) (by (simp only [Act.put, List.setIfInBounds_toArray, List.set_cons_zero, List.set_cons_succ]; rfl)) ?_))
              refine Quiet.done ?_
              intro w7 hbel
              have HBK := Aside0.mk (blk_bel HBK.out (hW7.out ▸ hbel))
              have HQ := Aside0.mk (blk_bel HQ.out (hW7.out ▸ hbel))
              have HB := Aside0.mk (Quiet.Bel.out HB.out hW7 hbel)
              clear hbel hcell hc
              have hc := (HB.out.cell (World.block_lt_of_cell? w _ HCW.out)).trans HCW.out
              have q0 : w7.cell? ⟨w.heap.size, 0, none⟩ = some (.int .i64 lie) := blk_cell HBK.out 0
              have q1 : w7.cell? ⟨w.heap.size, 1, none⟩ = some (.int .i64 pos) := blk_cell HBK.out 1
              have q2 : w7.cell? ⟨w.heap.size, 2, none⟩ = some (.bool true) := blk_cell HBK.out 2
              have p0 : w7.cell? ⟨b, 0, none⟩ = some (.int .i64 (rd l0 i % 4)) := blk_cell HQ.out 0
              have p1 : w7.cell? ⟨b, 1, none⟩ = some (.int .i64 y) := blk_cell HQ.out 1
              have p2 : w7.cell? ⟨b, 2, none⟩ = some (.bool true) := blk_cell HQ.out 2
              have f0 := Quiet.frozen_of HBK.out 0
              have f1 := Quiet.frozen_of HBK.out 1
              have f2 := Quiet.frozen_of HBK.out 2
              have e1 := HE.out
              have hne := Nat.ne_of_lt HNE.out
              go_wp2_with fail
              go_roundg k1
              case measure => omega
              case rel => exact ⟨i + 1, rd l0 i % 4, y, true, (by first | rfl | (simp; done) | (simp [*]; done)), ⟨by have := HI.out; exact ⟨by omega, HY.out⟩⟩, ⟨by have := HK.out; omega⟩, ⟨blk_put (blk_put (blk_put HBK.out 0 _ rfl) 1 _ rfl) 2 _ rfl⟩, ⟨by repeat (first | (with_reducible exact HB.out) | (with_reducible refine below_set ?_ (Nat.le_refl _)))⟩⟩
end Go.Proofs.Ytllmckdmglacdaa.A
