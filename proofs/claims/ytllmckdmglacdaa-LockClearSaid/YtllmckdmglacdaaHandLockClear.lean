/- The law LockClear, walked: at any signal it answers true. -/
import Derived.Test.YtllmckdmglacdaaAx8
import Derived.Test.YtllmckdmglacdaaAx2
import Derived.Test.YtllmckdmglacdaaPureLock
import Derived.Test.YtllmckdmglacdaaHas
import Derived.Outline
import Derived.Deep.RegionHeld3
import Derived.Deep.DrawnRows
import Derived.Deep.QuietTactic
import Derived.BigQuiet
import Derived.BigRegion
import Derived.Deep.RegionWith
namespace Go.Proofs.Ytllmckdmglacdaa.A
open Go.RowKit Go.Proofs.YtllmckdmglacdaaW.PrintWords Go.Proofs.YtllmckdmglacdaaW.PrintLast Go.Proofs.YtllmckdmglacdaaW.PrintMore
set_option linter.unusedVariables false
set_option linter.unusedSimpArgs false
attribute [local go_sem] Quiet.bel_all
attribute [local go_sem ↓] Go.wp_at_zero Go.wp_at_succ
attribute [local go_sem high] eqA38
theorem small22_k : ∃ k, crossbucklaw22_small.f k = some true := ⟨12, by decide +kernel⟩
set_option maxHeartbeats 40000000 in
set_option maxRecDepth 100000 in
theorem LockClear.walk (w : World) (c : Bool) (x : Int) (may : Bool) (hold : Int) (w0 : (Lit.int .i64 x).wf = true) (w1 : (Lit.int .i64 hold).wf = true) :
    Calls Try.prog 12 #[.agg #[.bool c, .int .i64 x], .bool may, .int .i64 hold] w fun e w' => e = .returned (.bool true) ∧ Below w.heap.size w w' := by
  have hx := bounds_i64 w0
  clear w0 w1
  obtain ⟨ks, hs⟩ := small22_k
  have HS := Aside0.mk hs
  clear hs
  cases may
  case false =>
    by_cases g : x < 1
    · have HY := Aside0.mk (show lock_Step.f c x false hold = some (false, 0) by rw [show lock_Step.f c x false hold = some (false, if x < 1 then 0 else wrap64 (x - 1)) from rfl, if_pos g])
      have HL := Aside0.mk (show lock_Locked.f false 0 = some false from rfl)
      have t1 : decide (x > 1) = false := decide_eq_false (by omega)
      have t2 : decide (1 < x) = false := decide_eq_false (by omega)
      clear hx
      go_enter Try.func12, Try.ntmps12
      go_wp2_with fail
      refine (crossbucklaw22_small.calls ks true _ HS.out).mono ?_
      rintro e w1 ⟨rfl, hb1⟩
      have H1 := Aside0.mk hb1
      have k1 : Quiet.Has w1 [(⟨w.heap.size, 0, none⟩, .bool c), (⟨w.heap.size, 1, none⟩, .int .i64 x)] := Quiet.Has.bel (by simp only [Quiet.has_cons, Quiet.has_nil, and_true]; refine ⟨?_, ?_⟩ <;> go_simp) hb1
      clear hb1
      have u := k1
      simp only [Quiet.has_cons, Quiet.has_nil, and_true] at u
      obtain ⟨u0, u1⟩ := u
      go_wp2_with fail
      refine (lock_Step.calls c x false hold false 0 _ HY.out).mono ?_
      rintro e w2 ⟨rfl, hb2⟩
      have H2 := Aside0.mk hb2
      have k2 := k1.bel hb2
      clear u0 u1
      clear hb2
      have kA2 := (((k2.alloc (.cells #[.bool false, .int .i64 0] 38)).more (show _ = some (.bool false) from Quiet.alloc_cell 0)).more (show _ = some (.int .i64 0) from Quiet.alloc_cell 1))
      have u := kA2
      simp only [Quiet.has_cons, Quiet.has_nil, and_true] at u
      obtain ⟨u0, u1, u2, u3⟩ := u
      go_wp2_with fail
      have hB3 := Aside0.mk (show Below w.heap.size w (w2.alloc (.cells #[.bool false, .int .i64 0] 38)) from by repeat (with_reducible first | exact Below.refl _ _ | apply below_alloc | apply below_drew1 | apply pw_below_drewN | refine below_step ?_ H1.out | refine below_step ?_ H2.out))
      clear u0 u1 u2 u3
      refine Quiet.start (fun w' => Quiet.Has w' [(⟨w2.heap.size, 1, none⟩, .int .i64 0), (⟨w2.heap.size, 0, none⟩, .bool false), (⟨w.heap.size, 0, none⟩, .bool c), (⟨w.heap.size, 1, none⟩, .int .i64 x)]) (by kernel_rfl) (by kernel_rfl) (fun w' h => kA2.bel h) (fun W3 hW3 hcell => ?_)
      repeat (first
        | go_big_quiet_skip
        | (go_big_quiet_want; go_big_quiet_op; go_big_quiet_on)
        | (refine Quiet.val _ _ (by rfl) (by (intro w' hC; have u := hcell w' hC; simp only [Quiet.has_cons, Quiet.has_nil, and_true] at u; obtain ⟨u0, u1, u2, u3⟩ := u; go_simp; with_reducible rfl)) (by (simp only [Act.put, List.setIfInBounds_toArray, List.set_cons_zero, List.set_cons_succ]; rfl)) ?_)
        | (refine Quiet.call (args := #[.agg #[.bool false, .int .i64 0]]) _ _ (by rfl) (by rfl) Try.func24 (by kernel_rfl) rfl (by simp only [List.map_toArray, List.map_cons, List.map_nil]; rfl) (fun w' hC => lock_Locked.calls false 0 false _ HL.out) (by (simp only [Act.put, List.setIfInBounds_toArray, List.set_cons_zero, List.set_cons_succ]; rfl)) ?_))
      refine Quiet.done ?_
      intro w3 hbel
      have B3 := Aside0.mk (Quiet.Bel.out hB3.out hW3 hbel)
      clear hbel hcell hW3
      go_wp2
      go_ret
      exact ⟨rfl, by repeat (with_reducible first | exact B3.out | apply below_alloc | apply below_drew1 | apply pw_below_drewN)⟩
    · obtain ⟨y, hy⟩ : ∃ y, y = x - 1 := ⟨_, rfl⟩
      have HY := Aside0.mk (show lock_Step.f c x false hold = some (false, y) by rw [show lock_Step.f c x false hold = some (false, if x < 1 then 0 else wrap64 (x - 1)) from rfl, if_neg g, hy, show wrap64 (x - 1) = x - 1 by unfold wrap64; omega])
      obtain ⟨b, hb⟩ : ∃ b, b = decide (1 < x) := ⟨_, rfl⟩
      have HL := Aside0.mk (show lock_Locked.f false y = some b by rw [hb, hy]; show some (decide (x - 1 > 0)) = _; congr 1; exact decide_eq_decide.2 (by omega))
      have t0 : decide (y ≥ 0) = true := decide_eq_true (by omega)
      have t1 : decide (0 ≤ y) = true := decide_eq_true (by omega)
      have t2 : decide (y < x) = true := decide_eq_true (by omega)
      have t3 : decide (x > 1) = b := hb.symm
      have t4 : decide (1 < x) = b := hb.symm
      clear hy hb hx
      go_enter Try.func12, Try.ntmps12
      go_wp2_with fail
      refine (crossbucklaw22_small.calls ks true _ HS.out).mono ?_
      rintro e w1 ⟨rfl, hb1⟩
      have H1 := Aside0.mk hb1
      have k1 : Quiet.Has w1 [(⟨w.heap.size, 0, none⟩, .bool c), (⟨w.heap.size, 1, none⟩, .int .i64 x)] := Quiet.Has.bel (by simp only [Quiet.has_cons, Quiet.has_nil, and_true]; refine ⟨?_, ?_⟩ <;> go_simp) hb1
      clear hb1
      have u := k1
      simp only [Quiet.has_cons, Quiet.has_nil, and_true] at u
      obtain ⟨u0, u1⟩ := u
      go_wp2_with fail
      refine (lock_Step.calls c x false hold false y _ HY.out).mono ?_
      rintro e w2 ⟨rfl, hb2⟩
      have H2 := Aside0.mk hb2
      have k2 := k1.bel hb2
      clear u0 u1
      clear hb2
      have kA2 := (((k2.alloc (.cells #[.bool false, .int .i64 y] 38)).more (show _ = some (.bool false) from Quiet.alloc_cell 0)).more (show _ = some (.int .i64 y) from Quiet.alloc_cell 1))
      have u := kA2
      simp only [Quiet.has_cons, Quiet.has_nil, and_true] at u
      obtain ⟨u0, u1, u2, u3⟩ := u
      go_wp2_with fail
      have hB3 := Aside0.mk (show Below w.heap.size w (w2.alloc (.cells #[.bool false, .int .i64 y] 38)) from by repeat (with_reducible first | exact Below.refl _ _ | apply below_alloc | apply below_drew1 | apply pw_below_drewN | refine below_step ?_ H1.out | refine below_step ?_ H2.out))
      clear u0 u1 u2 u3
      refine Quiet.start (fun w' => Quiet.Has w' [(⟨w2.heap.size, 1, none⟩, .int .i64 y), (⟨w2.heap.size, 0, none⟩, .bool false), (⟨w.heap.size, 0, none⟩, .bool c), (⟨w.heap.size, 1, none⟩, .int .i64 x)]) (by kernel_rfl) (by kernel_rfl) (fun w' h => kA2.bel h) (fun W3 hW3 hcell => ?_)
      repeat (first
        | go_big_quiet_skip
        | (go_big_quiet_want; go_big_quiet_op; go_big_quiet_on)
        | (refine Quiet.val _ _ (by rfl) (by (intro w' hC; have u := hcell w' hC; simp only [Quiet.has_cons, Quiet.has_nil, and_true] at u; obtain ⟨u0, u1, u2, u3⟩ := u; go_simp; with_reducible rfl)) (by (simp only [Act.put, List.setIfInBounds_toArray, List.set_cons_zero, List.set_cons_succ]; rfl)) ?_)
        | (refine Quiet.call (args := #[.agg #[.bool false, .int .i64 y]]) _ _ (by rfl) (by rfl) Try.func24 (by kernel_rfl) rfl (by simp only [List.map_toArray, List.map_cons, List.map_nil]; rfl) (fun w' hC => lock_Locked.calls false y b _ HL.out) (by (simp only [Act.put, List.setIfInBounds_toArray, List.set_cons_zero, List.set_cons_succ]; rfl)) ?_))
      refine Quiet.done ?_
      intro w3 hbel
      have B3 := Aside0.mk (Quiet.Bel.out hB3.out hW3 hbel)
      clear hbel hcell hW3
      go_wp2
      go_ret
      exact ⟨rfl, by repeat (with_reducible first | exact B3.out | apply below_alloc | apply below_drew1 | apply pw_below_drewN)⟩
  case true =>
    obtain ⟨y, hy⟩ : ∃ y, y = if hold < 0 then 0 else hold := ⟨_, rfl⟩
    have HY := Aside0.mk (show lock_Step.f c x true hold = some (true, y) by rw [hy]; rfl)
    have HZ := Aside0.mk (show lock_Step.f false 0 true hold = some (true, y) by rw [hy]; rfl)
    have HL := Aside0.mk (show lock_Locked.f true y = some true from rfl)
    have hy0 : 0 ≤ y := by rw [hy]; split <;> omega
    have t0 : decide (y ≥ 0) = true := decide_eq_true hy0
    have t1 : decide (0 ≤ y) = true := decide_eq_true hy0
    clear hy hy0 hx
    go_enter Try.func12, Try.ntmps12
    go_wp2_with fail
    refine (crossbucklaw22_small.calls ks true _ HS.out).mono ?_
    rintro e w1 ⟨rfl, hb1⟩
    have H1 := Aside0.mk hb1
    have k1 : Quiet.Has w1 [(⟨w.heap.size, 0, none⟩, .bool c), (⟨w.heap.size, 1, none⟩, .int .i64 x)] := Quiet.Has.bel (by simp only [Quiet.has_cons, Quiet.has_nil, and_true]; refine ⟨?_, ?_⟩ <;> go_simp) hb1
    clear hb1
    have u := k1
    simp only [Quiet.has_cons, Quiet.has_nil, and_true] at u
    obtain ⟨u0, u1⟩ := u
    go_wp2_with fail
    refine (lock_Step.calls c x true hold true y _ HY.out).mono ?_
    rintro e w2 ⟨rfl, hb2⟩
    have H2 := Aside0.mk hb2
    have k2 := k1.bel hb2
    clear u0 u1
    clear hb2
    have kA2 := (((k2.alloc (.cells #[.bool true, .int .i64 y] 38)).more (show _ = some (.bool true) from Quiet.alloc_cell 0)).more (show _ = some (.int .i64 y) from Quiet.alloc_cell 1))
    have u := kA2
    simp only [Quiet.has_cons, Quiet.has_nil, and_true] at u
    obtain ⟨u0, u1, u2, u3⟩ := u
    go_wp2_with fail
    have hB3 := Aside0.mk (show Below w.heap.size w (w2.alloc (.cells #[.bool true, .int .i64 y] 38)) from by repeat (with_reducible first | exact Below.refl _ _ | apply below_alloc | apply below_drew1 | apply pw_below_drewN | refine below_step ?_ H1.out | refine below_step ?_ H2.out))
    clear u0 u1 u2 u3
    refine Quiet.start (fun w' => Quiet.Has w' [(⟨w2.heap.size, 1, none⟩, .int .i64 y), (⟨w2.heap.size, 0, none⟩, .bool true), (⟨w.heap.size, 0, none⟩, .bool c), (⟨w.heap.size, 1, none⟩, .int .i64 x)]) (by kernel_rfl) (by kernel_rfl) (fun w' h => kA2.bel h) (fun W3 hW3 hcell => ?_)
    repeat (first
      | go_big_quiet_skip
      | (go_big_quiet_want; go_big_quiet_op; go_big_quiet_on)
      | (refine Quiet.val _ _ (by rfl) (by (intro w' hC; have u := hcell w' hC; simp only [Quiet.has_cons, Quiet.has_nil, and_true] at u; obtain ⟨u0, u1, u2, u3⟩ := u; go_simp; with_reducible rfl)) (by (simp only [Act.put, List.setIfInBounds_toArray, List.set_cons_zero, List.set_cons_succ]; rfl)) ?_)
      | (refine Quiet.call (args := #[.agg #[.bool false, .int .i64 0], .bool true, .int .i64 hold]) _ _ (by rfl) (by rfl) Try.func22 (by kernel_rfl) rfl (by simp only [List.map_toArray, List.map_cons, List.map_nil]; rfl) (fun w' hC => lock_Step.calls false 0 true hold true y _ HZ.out) (by (simp only [Act.put, List.setIfInBounds_toArray, List.set_cons_zero, List.set_cons_succ]; rfl)) ?_)
      | (refine Quiet.call (args := #[.agg #[.bool true, .int .i64 y]]) _ _ (by rfl) (by rfl) Try.func24 (by kernel_rfl) rfl (by simp only [List.map_toArray, List.map_cons, List.map_nil]; rfl) (fun w' hC => lock_Locked.calls true y true _ HL.out) (by (simp only [Act.put, List.setIfInBounds_toArray, List.set_cons_zero, List.set_cons_succ]; rfl)) ?_))
    refine Quiet.done ?_
    intro w3 hbel
    have B3 := Aside0.mk (Quiet.Bel.out hB3.out hW3 hbel)
    clear hbel hcell hW3
    go_wp2
    go_ret
    exact ⟨rfl, by repeat (with_reducible first | exact B3.out | apply below_alloc | apply below_drew1 | apply pw_below_drewN)⟩
end Go.Proofs.Ytllmckdmglacdaa.A
