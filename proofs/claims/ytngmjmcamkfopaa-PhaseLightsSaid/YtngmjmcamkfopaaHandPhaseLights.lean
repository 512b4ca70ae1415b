/- The law PhaseLights, walked: at any road it answers true. -/
import Derived.Test.YtngmjmcamkfopaaHandSmall20
import Derived.Outline
import Derived.Deep.RegionHeld3
import Derived.Deep.DrawnRows
import Derived.Deep.QuietTactic
import Derived.BigQuiet
import Derived.BigRegion
import Derived.Deep.RegionWith
namespace Go.Proofs.Ytngmjmcamkfopaa.A
open Go.RowKit Go.Proofs.YtngmjmcamkfopaaW.PrintWords Go.Proofs.YtngmjmcamkfopaaW.PrintLast Go.Proofs.YtngmjmcamkfopaaW.PrintMore
set_option linter.unusedVariables false
set_option linter.unusedSimpArgs false
attribute [local go_sem] Quiet.bel_all
attribute [local go_sem ↓] Go.wp_at_zero Go.wp_at_succ
attribute [local go_sem high] eqA28 eqA38
set_option maxHeartbeats 40000000 in
set_option maxRecDepth 100000 in
theorem PhaseLights.walk (w : World) (p s : Int) (w0 : (Lit.int .i64 p).wf = true) (w1 : (Lit.int .i64 s).wf = true) :
    Calls Try.prog 8 #[.agg #[.int .i64 p, .int .i64 s]] w fun e w' => e = .returned (.bool true) ∧ Below w.heap.size w w' := by
  clear w0 w1
  have hc : decide (p < 0) = true ∨ (decide (p < 0) = false ∧ decide (7 < p) = true) ∨ p = 0 ∨ p = 1 ∨ p = 2 ∨ p = 3 ∨ p = 4 ∨ p = 5 ∨ p = 6 ∨ p = 7 := by
    simp only [decide_eq_true_eq, decide_eq_false_iff_not]
    omega
  rcases hc with hc | ⟨hc, hd⟩ | rfl | rfl | rfl | rfl | rfl | rfl | rfl | rfl
  · have h0 : (p == 0) = false := by simp only [decide_eq_true_eq, decide_eq_false_iff_not] at *; simp; omega
    have hl : phase_Lights.f p s = some (false, true, true, true, true) := by have hp : phaseOf p = 7 := (by simp only [phaseOf]; rw [if_pos (by simpa using hc)]); simp only [phase_Lights.f, hp]; rfl
    clear hc
    go_enter Try.func8, Try.ntmps8
    go_wp2_with fail
    refine (crossbucklaw20_small.calls true _ rfl).mono ?_
    rintro e w1 ⟨rfl, hb1⟩
    have H1 := Aside0.mk hb1
    have k1 : Quiet.Has w1 [(⟨w.heap.size, 0, none⟩, .int .i64 p), (⟨w.heap.size, 1, none⟩, .int .i64 s)] := Quiet.Has.bel (by simp only [Quiet.has_cons, Quiet.has_nil, and_true]; refine ⟨?_, ?_⟩ <;> go_simp) hb1
    clear hb1
    have u := k1
    simp only [Quiet.has_cons, Quiet.has_nil, and_true] at u
    obtain ⟨u0, u1⟩ := u
    go_wp2_with fail
    refine (phase_Lights.calls p s false true true true true _ hl).mono ?_
    rintro e w2 ⟨rfl, hb2⟩
    have H2 := Aside0.mk hb2
    have k2 := k1.bel hb2
    clear u0 u1
    clear hb2
    have kA2 := ((((((k2.alloc (.cells #[.bool false, .bool true, .bool true, .bool true, .bool true] 38)).more (show _ = some (.bool false) from Quiet.alloc_cell 0)).more (show _ = some (.bool true) from Quiet.alloc_cell 1)).more (show _ = some (.bool true) from Quiet.alloc_cell 2)).more (show _ = some (.bool true) from Quiet.alloc_cell 3)).more (show _ = some (.bool true) from Quiet.alloc_cell 4))
    have u := kA2
    simp only [Quiet.has_cons, Quiet.has_nil, and_true] at u
    obtain ⟨u0, u1, u2, u3, u4, u5, u6⟩ := u
    go_wp2_with fail
    have hB3 := Aside0.mk (show Below w.heap.size w (w2.alloc (.cells #[.bool false, .bool true, .bool true, .bool true, .bool true] 38)) from by repeat (with_reducible first | exact Below.refl _ _ | apply below_alloc | apply below_drew1 | apply pw_below_drewN | refine below_step ?_ H1.out | refine below_step ?_ H2.out))
    clear u0 u1 u2 u3 u4 u5 u6
    refine Quiet.start (fun w' => Quiet.Has w' [(⟨w2.heap.size, 4, none⟩, .bool true), (⟨w2.heap.size, 3, none⟩, .bool true), (⟨w2.heap.size, 2, none⟩, .bool true), (⟨w2.heap.size, 1, none⟩, .bool true), (⟨w2.heap.size, 0, none⟩, .bool false), (⟨w.heap.size, 0, none⟩, .int .i64 p), (⟨w.heap.size, 1, none⟩, .int .i64 s)]) (by kernel_rfl) (by kernel_rfl) (fun w' h => kA2.bel h) (fun W3 hW3 hcell => ?_)
    repeat (first
      | go_big_quiet_skip
      | (go_big_quiet_want; go_big_quiet_op; go_big_quiet_on)
      | (refine Quiet.val _ _ (by rfl) (by (intro w' hC; have u := hcell w' hC; simp only [Quiet.has_cons, Quiet.has_nil, and_true] at u; obtain ⟨u0, u1, u2, u3, u4, u5, u6⟩ := u; go_simp; with_reducible rfl)) (by (simp only [Act.put, List.setIfInBounds_toArray, List.set_cons_zero, List.set_cons_succ]; rfl)) ?_))
    refine Quiet.done ?_
    intro w3 hbel
    have B3 := Aside0.mk (Quiet.Bel.out hB3.out hW3 hbel)
    clear hbel hcell hW3
    go_wp2
    go_ret
    exact ⟨rfl, by repeat (with_reducible first | exact B3.out | apply below_alloc | apply below_drew1 | apply pw_below_drewN)⟩
  · have h0 : (p == 0) = false := by simp only [decide_eq_true_eq, decide_eq_false_iff_not] at *; simp; omega
    have hl : phase_Lights.f p s = some (false, true, true, true, true) := by have hp : phaseOf p = 7 := (by simp only [phaseOf]; rw [if_neg (by simpa using hc), if_pos (by simpa using hd)]); simp only [phase_Lights.f, hp]; rfl
    clear hc hd
    go_enter Try.func8, Try.ntmps8
    go_wp2_with fail
    refine (crossbucklaw20_small.calls true _ rfl).mono ?_
    rintro e w1 ⟨rfl, hb1⟩
    have H1 := Aside0.mk hb1
    have k1 : Quiet.Has w1 [(⟨w.heap.size, 0, none⟩, .int .i64 p), (⟨w.heap.size, 1, none⟩, .int .i64 s)] := Quiet.Has.bel (by simp only [Quiet.has_cons, Quiet.has_nil, and_true]; refine ⟨?_, ?_⟩ <;> go_simp) hb1
    clear hb1
    have u := k1
    simp only [Quiet.has_cons, Quiet.has_nil, and_true] at u
    obtain ⟨u0, u1⟩ := u
    go_wp2_with fail
    refine (phase_Lights.calls p s false true true true true _ hl).mono ?_
    rintro e w2 ⟨rfl, hb2⟩
    have H2 := Aside0.mk hb2
    have k2 := k1.bel hb2
    clear u0 u1
    clear hb2
    have kA2 := ((((((k2.alloc (.cells #[.bool false, .bool true, .bool true, .bool true, .bool true] 38)).more (show _ = some (.bool false) from Quiet.alloc_cell 0)).more (show _ = some (.bool true) from Quiet.alloc_cell 1)).more (show _ = some (.bool true) from Quiet.alloc_cell 2)).more (show _ = some (.bool true) from Quiet.alloc_cell 3)).more (show _ = some (.bool true) from Quiet.alloc_cell 4))
    have u := kA2
    simp only [Quiet.has_cons, Quiet.has_nil, and_true] at u
    obtain ⟨u0, u1, u2, u3, u4, u5, u6⟩ := u
    go_wp2_with fail
    have hB3 := Aside0.mk (show Below w.heap.size w (w2.alloc (.cells #[.bool false, .bool true, .bool true, .bool true, .bool true] 38)) from by repeat (with_reducible first | exact Below.refl _ _ | apply below_alloc | apply below_drew1 | apply pw_below_drewN | refine below_step ?_ H1.out | refine below_step ?_ H2.out))
    clear u0 u1 u2 u3 u4 u5 u6
    refine Quiet.start (fun w' => Quiet.Has w' [(⟨w2.heap.size, 4, none⟩, .bool true), (⟨w2.heap.size, 3, none⟩, .bool true), (⟨w2.heap.size, 2, none⟩, .bool true), (⟨w2.heap.size, 1, none⟩, .bool true), (⟨w2.heap.size, 0, none⟩, .bool false), (⟨w.heap.size, 0, none⟩, .int .i64 p), (⟨w.heap.size, 1, none⟩, .int .i64 s)]) (by kernel_rfl) (by kernel_rfl) (fun w' h => kA2.bel h) (fun W3 hW3 hcell => ?_)
    repeat (first
      | go_big_quiet_skip
      | (go_big_quiet_want; go_big_quiet_op; go_big_quiet_on)
      | (refine Quiet.val _ _ (by rfl) (by (intro w' hC; have u := hcell w' hC; simp only [Quiet.has_cons, Quiet.has_nil, and_true] at u; obtain ⟨u0, u1, u2, u3, u4, u5, u6⟩ := u; go_simp; with_reducible rfl)) (by (simp only [Act.put, List.setIfInBounds_toArray, List.set_cons_zero, List.set_cons_succ]; rfl)) ?_))
    refine Quiet.done ?_
    intro w3 hbel
    have B3 := Aside0.mk (Quiet.Bel.out hB3.out hW3 hbel)
    clear hbel hcell hW3
    go_wp2
    go_ret
    exact ⟨rfl, by repeat (with_reducible first | exact B3.out | apply below_alloc | apply below_drew1 | apply pw_below_drewN)⟩
  · go_enter Try.func8, Try.ntmps8
    go_wp2_with fail
    refine (crossbucklaw20_small.calls true _ rfl).mono ?_
    rintro e w1 ⟨rfl, hb1⟩
    have H1 := Aside0.mk hb1
    have k1 : Quiet.Has w1 [(⟨w.heap.size, 0, none⟩, .int .i64 0), (⟨w.heap.size, 1, none⟩, .int .i64 s)] := Quiet.Has.bel (by simp only [Quiet.has_cons, Quiet.has_nil, and_true]; refine ⟨?_, ?_⟩ <;> go_simp) hb1
    clear hb1
    have u := k1
    simp only [Quiet.has_cons, Quiet.has_nil, and_true] at u
    obtain ⟨u0, u1⟩ := u
    go_wp2_with fail
    refine (phase_Lights.calls 0 s false false false false false _ rfl).mono ?_
    rintro e w2 ⟨rfl, hb2⟩
    have H2 := Aside0.mk hb2
    have k2 := k1.bel hb2
    clear u0 u1
    clear hb2
    have kA2 := ((((((k2.alloc (.cells #[.bool false, .bool false, .bool false, .bool false, .bool false] 38)).more (show _ = some (.bool false) from Quiet.alloc_cell 0)).more (show _ = some (.bool false) from Quiet.alloc_cell 1)).more (show _ = some (.bool false) from Quiet.alloc_cell 2)).more (show _ = some (.bool false) from Quiet.alloc_cell 3)).more (show _ = some (.bool false) from Quiet.alloc_cell 4))
    have u := kA2
    simp only [Quiet.has_cons, Quiet.has_nil, and_true] at u
    obtain ⟨u0, u1, u2, u3, u4, u5, u6⟩ := u
    go_wp2_with fail
    have hB3 := Aside0.mk (show Below w.heap.size w (w2.alloc (.cells #[.bool false, .bool false, .bool false, .bool false, .bool false] 38)) from by repeat (with_reducible first | exact Below.refl _ _ | apply below_alloc | apply below_drew1 | apply pw_below_drewN | refine below_step ?_ H1.out | refine below_step ?_ H2.out))
    clear u0 u1 u2 u3 u4 u5 u6
    refine Quiet.start (fun w' => Quiet.Has w' [(⟨w2.heap.size, 4, none⟩, .bool false), (⟨w2.heap.size, 3, none⟩, .bool false), (⟨w2.heap.size, 2, none⟩, .bool false), (⟨w2.heap.size, 1, none⟩, .bool false), (⟨w2.heap.size, 0, none⟩, .bool false), (⟨w.heap.size, 0, none⟩, .int .i64 0), (⟨w.heap.size, 1, none⟩, .int .i64 s)]) (by kernel_rfl) (by kernel_rfl) (fun w' h => kA2.bel h) (fun W3 hW3 hcell => ?_)
    repeat (first
      | go_big_quiet_skip
      | (go_big_quiet_want; go_big_quiet_op; go_big_quiet_on)
      | (refine Quiet.val _ _ (by rfl) (by (intro w' hC; have u := hcell w' hC; simp only [Quiet.has_cons, Quiet.has_nil, and_true] at u; obtain ⟨u0, u1, u2, u3, u4, u5, u6⟩ := u; go_simp; with_reducible rfl)) (by (simp only [Act.put, List.setIfInBounds_toArray, List.set_cons_zero, List.set_cons_succ]; rfl)) ?_))
    refine Quiet.done ?_
    intro w3 hbel
    have B3 := Aside0.mk (Quiet.Bel.out hB3.out hW3 hbel)
    clear hbel hcell hW3
    go_wp2
    go_ret
    exact ⟨rfl, by repeat (with_reducible first | exact B3.out | apply below_alloc | apply below_drew1 | apply pw_below_drewN)⟩
  · go_enter Try.func8, Try.ntmps8
    go_wp2_with fail
    refine (crossbucklaw20_small.calls true _ rfl).mono ?_
    rintro e w1 ⟨rfl, hb1⟩
    have H1 := Aside0.mk hb1
    have k1 : Quiet.Has w1 [(⟨w.heap.size, 0, none⟩, .int .i64 1), (⟨w.heap.size, 1, none⟩, .int .i64 s)] := Quiet.Has.bel (by simp only [Quiet.has_cons, Quiet.has_nil, and_true]; refine ⟨?_, ?_⟩ <;> go_simp) hb1
    clear hb1
    have u := k1
    simp only [Quiet.has_cons, Quiet.has_nil, and_true] at u
    obtain ⟨u0, u1⟩ := u
    go_wp2_with fail
    refine (phase_Lights.calls 1 s true false true false false _ rfl).mono ?_
    rintro e w2 ⟨rfl, hb2⟩
    have H2 := Aside0.mk hb2
    have k2 := k1.bel hb2
    clear u0 u1
    clear hb2
    have kA2 := ((((((k2.alloc (.cells #[.bool true, .bool false, .bool true, .bool false, .bool false] 38)).more (show _ = some (.bool true) from Quiet.alloc_cell 0)).more (show _ = some (.bool false) from Quiet.alloc_cell 1)).more (show _ = some (.bool true) from Quiet.alloc_cell 2)).more (show _ = some (.bool false) from Quiet.alloc_cell 3)).more (show _ = some (.bool false) from Quiet.alloc_cell 4))
    have u := kA2
    simp only [Quiet.has_cons, Quiet.has_nil, and_true] at u
    obtain ⟨u0, u1, u2, u3, u4, u5, u6⟩ := u
    go_wp2_with fail
    have hB3 := Aside0.mk (show Below w.heap.size w (w2.alloc (.cells #[.bool true, .bool false, .bool true, .bool false, .bool false] 38)) from by repeat (with_reducible first | exact Below.refl _ _ | apply below_alloc | apply below_drew1 | apply pw_below_drewN | refine below_step ?_ H1.out | refine below_step ?_ H2.out))
    clear u0 u1 u2 u3 u4 u5 u6
    refine Quiet.start (fun w' => Quiet.Has w' [(⟨w2.heap.size, 4, none⟩, .bool false), (⟨w2.heap.size, 3, none⟩, .bool false), (⟨w2.heap.size, 2, none⟩, .bool true), (⟨w2.heap.size, 1, none⟩, .bool false), (⟨w2.heap.size, 0, none⟩, .bool true), (⟨w.heap.size, 0, none⟩, .int .i64 1), (⟨w.heap.size, 1, none⟩, .int .i64 s)]) (by kernel_rfl) (by kernel_rfl) (fun w' h => kA2.bel h) (fun W3 hW3 hcell => ?_)
    repeat (first
      | go_big_quiet_skip
      | (go_big_quiet_want; go_big_quiet_op; go_big_quiet_on)
      | (refine Quiet.val _ _ (by rfl) (by (intro w' hC; have u := hcell w' hC; simp only [Quiet.has_cons, Quiet.has_nil, and_true] at u; obtain ⟨u0, u1, u2, u3, u4, u5, u6⟩ := u; go_simp; with_reducible rfl)) (by (simp only [Act.put, List.setIfInBounds_toArray, List.set_cons_zero, List.set_cons_succ]; rfl)) ?_))
    refine Quiet.done ?_
    intro w3 hbel
    have B3 := Aside0.mk (Quiet.Bel.out hB3.out hW3 hbel)
    clear hbel hcell hW3
    go_wp2
    go_ret
    exact ⟨rfl, by repeat (with_reducible first | exact B3.out | apply below_alloc | apply below_drew1 | apply pw_below_drewN)⟩
  · go_enter Try.func8, Try.ntmps8
    go_wp2_with fail
    refine (crossbucklaw20_small.calls true _ rfl).mono ?_
    rintro e w1 ⟨rfl, hb1⟩
    have H1 := Aside0.mk hb1
    have k1 : Quiet.Has w1 [(⟨w.heap.size, 0, none⟩, .int .i64 2), (⟨w.heap.size, 1, none⟩, .int .i64 s)] := Quiet.Has.bel (by simp only [Quiet.has_cons, Quiet.has_nil, and_true]; refine ⟨?_, ?_⟩ <;> go_simp) hb1
    clear hb1
    have u := k1
    simp only [Quiet.has_cons, Quiet.has_nil, and_true] at u
    obtain ⟨u0, u1⟩ := u
    go_wp2_with fail
    refine (phase_Lights.calls 2 s false true true false false _ rfl).mono ?_
    rintro e w2 ⟨rfl, hb2⟩
    have H2 := Aside0.mk hb2
    have k2 := k1.bel hb2
    clear u0 u1
    clear hb2
    have kA2 := ((((((k2.alloc (.cells #[.bool false, .bool true, .bool true, .bool false, .bool false] 38)).more (show _ = some (.bool false) from Quiet.alloc_cell 0)).more (show _ = some (.bool true) from Quiet.alloc_cell 1)).more (show _ = some (.bool true) from Quiet.alloc_cell 2)).more (show _ = some (.bool false) from Quiet.alloc_cell 3)).more (show _ = some (.bool false) from Quiet.alloc_cell 4))
    have u := kA2
    simp only [Quiet.has_cons, Quiet.has_nil, and_true] at u
    obtain ⟨u0, u1, u2, u3, u4, u5, u6⟩ := u
    go_wp2_with fail
    have hB3 := Aside0.mk (show Below w.heap.size w (w2.alloc (.cells #[.bool false, .bool true, .bool true, .bool false, .bool false] 38)) from by repeat (with_reducible first | exact Below.refl _ _ | apply below_alloc | apply below_drew1 | apply pw_below_drewN | refine below_step ?_ H1.out | refine below_step ?_ H2.out))
    clear u0 u1 u2 u3 u4 u5 u6
    refine Quiet.start (fun w' => Quiet.Has w' [(⟨w2.heap.size, 4, none⟩, .bool false), (⟨w2.heap.size, 3, none⟩, .bool false), (⟨w2.heap.size, 2, none⟩, .bool true), (⟨w2.heap.size, 1, none⟩, .bool true), (⟨w2.heap.size, 0, none⟩, .bool false), (⟨w.heap.size, 0, none⟩, .int .i64 2), (⟨w.heap.size, 1, none⟩, .int .i64 s)]) (by kernel_rfl) (by kernel_rfl) (fun w' h => kA2.bel h) (fun W3 hW3 hcell => ?_)
    repeat (first
      | go_big_quiet_skip
      | (go_big_quiet_want; go_big_quiet_op; go_big_quiet_on)
      | (refine Quiet.val _ _ (by rfl) (by (intro w' hC; have u := hcell w' hC; simp only [Quiet.has_cons, Quiet.has_nil, and_true] at u; obtain ⟨u0, u1, u2, u3, u4, u5, u6⟩ := u; go_simp; with_reducible rfl)) (by (simp only [Act.put, List.setIfInBounds_toArray, List.set_cons_zero, List.set_cons_succ]; rfl)) ?_))
    refine Quiet.done ?_
    intro w3 hbel
    have B3 := Aside0.mk (Quiet.Bel.out hB3.out hW3 hbel)
    clear hbel hcell hW3
    go_wp2
    go_ret
    exact ⟨rfl, by repeat (with_reducible first | exact B3.out | apply below_alloc | apply below_drew1 | apply pw_below_drewN)⟩
  · go_enter Try.func8, Try.ntmps8
    go_wp2_with fail
    refine (crossbucklaw20_small.calls true _ rfl).mono ?_
    rintro e w1 ⟨rfl, hb1⟩
    have H1 := Aside0.mk hb1
    have k1 : Quiet.Has w1 [(⟨w.heap.size, 0, none⟩, .int .i64 3), (⟨w.heap.size, 1, none⟩, .int .i64 s)] := Quiet.Has.bel (by simp only [Quiet.has_cons, Quiet.has_nil, and_true]; refine ⟨?_, ?_⟩ <;> go_simp) hb1
    clear hb1
    have u := k1
    simp only [Quiet.has_cons, Quiet.has_nil, and_true] at u
    obtain ⟨u0, u1⟩ := u
    go_wp2_with fail
    refine (phase_Lights.calls 3 s false true true true false _ rfl).mono ?_
    rintro e w2 ⟨rfl, hb2⟩
    have H2 := Aside0.mk hb2
    have k2 := k1.bel hb2
    clear u0 u1
    clear hb2
    have kA2 := ((((((k2.alloc (.cells #[.bool false, .bool true, .bool true, .bool true, .bool false] 38)).more (show _ = some (.bool false) from Quiet.alloc_cell 0)).more (show _ = some (.bool true) from Quiet.alloc_cell 1)).more (show _ = some (.bool true) from Quiet.alloc_cell 2)).more (show _ = some (.bool true) from Quiet.alloc_cell 3)).more (show _ = some (.bool false) from Quiet.alloc_cell 4))
    have u := kA2
    simp only [Quiet.has_cons, Quiet.has_nil, and_true] at u
    obtain ⟨u0, u1, u2, u3, u4, u5, u6⟩ := u
    go_wp2_with fail
    have hB3 := Aside0.mk (show Below w.heap.size w (w2.alloc (.cells #[.bool false, .bool true, .bool true, .bool true, .bool false] 38)) from by repeat (with_reducible first | exact Below.refl _ _ | apply below_alloc | apply below_drew1 | apply pw_below_drewN | refine below_step ?_ H1.out | refine below_step ?_ H2.out))
    clear u0 u1 u2 u3 u4 u5 u6
    refine Quiet.start (fun w' => Quiet.Has w' [(⟨w2.heap.size, 4, none⟩, .bool false), (⟨w2.heap.size, 3, none⟩, .bool true), (⟨w2.heap.size, 2, none⟩, .bool true), (⟨w2.heap.size, 1, none⟩, .bool true), (⟨w2.heap.size, 0, none⟩, .bool false), (⟨w.heap.size, 0, none⟩, .int .i64 3), (⟨w.heap.size, 1, none⟩, .int .i64 s)]) (by kernel_rfl) (by kernel_rfl) (fun w' h => kA2.bel h) (fun W3 hW3 hcell => ?_)
    repeat (first
      | go_big_quiet_skip
      | (go_big_quiet_want; go_big_quiet_op; go_big_quiet_on)
      | (refine Quiet.val _ _ (by rfl) (by (intro w' hC; have u := hcell w' hC; simp only [Quiet.has_cons, Quiet.has_nil, and_true] at u; obtain ⟨u0, u1, u2, u3, u4, u5, u6⟩ := u; go_simp; with_reducible rfl)) (by (simp only [Act.put, List.setIfInBounds_toArray, List.set_cons_zero, List.set_cons_succ]; rfl)) ?_))
    refine Quiet.done ?_
    intro w3 hbel
    have B3 := Aside0.mk (Quiet.Bel.out hB3.out hW3 hbel)
    clear hbel hcell hW3
    go_wp2
    go_ret
    exact ⟨rfl, by repeat (with_reducible first | exact B3.out | apply below_alloc | apply below_drew1 | apply pw_below_drewN)⟩
  · go_enter Try.func8, Try.ntmps8
    go_wp2_with fail
    refine (crossbucklaw20_small.calls true _ rfl).mono ?_
    rintro e w1 ⟨rfl, hb1⟩
    have H1 := Aside0.mk hb1
    have k1 : Quiet.Has w1 [(⟨w.heap.size, 0, none⟩, .int .i64 4), (⟨w.heap.size, 1, none⟩, .int .i64 s)] := Quiet.Has.bel (by simp only [Quiet.has_cons, Quiet.has_nil, and_true]; refine ⟨?_, ?_⟩ <;> go_simp) hb1
    clear hb1
    have u := k1
    simp only [Quiet.has_cons, Quiet.has_nil, and_true] at u
    obtain ⟨u0, u1⟩ := u
    go_wp2_with fail
    refine (phase_Lights.calls 4 s false true true true true _ rfl).mono ?_
    rintro e w2 ⟨rfl, hb2⟩
    have H2 := Aside0.mk hb2
    have k2 := k1.bel hb2
    clear u0 u1
    clear hb2
    have kA2 := ((((((k2.alloc (.cells #[.bool false, .bool true, .bool true, .bool true, .bool true] 38)).more (show _ = some (.bool false) from Quiet.alloc_cell 0)).more (show _ = some (.bool true) from Quiet.alloc_cell 1)).more (show _ = some (.bool true) from Quiet.alloc_cell 2)).more (show _ = some (.bool true) from Quiet.alloc_cell 3)).more (show _ = some (.bool true) from Quiet.alloc_cell 4))
    have u := kA2
    simp only [Quiet.has_cons, Quiet.has_nil, and_true] at u
    obtain ⟨u0, u1, u2, u3, u4, u5, u6⟩ := u
    go_wp2_with fail
    have hB3 := Aside0.mk (show Below w.heap.size w (w2.alloc (.cells #[.bool false, .bool true, .bool true, .bool true, .bool true] 38)) from by repeat (with_reducible first | exact Below.refl _ _ | apply below_alloc | apply below_drew1 | apply pw_below_drewN | refine below_step ?_ H1.out | refine below_step ?_ H2.out))
    clear u0 u1 u2 u3 u4 u5 u6
    refine Quiet.start (fun w' => Quiet.Has w' [(⟨w2.heap.size, 4, none⟩, .bool true), (⟨w2.heap.size, 3, none⟩, .bool true), (⟨w2.heap.size, 2, none⟩, .bool true), (⟨w2.heap.size, 1, none⟩, .bool true), (⟨w2.heap.size, 0, none⟩, .bool false), (⟨w.heap.size, 0, none⟩, .int .i64 4), (⟨w.heap.size, 1, none⟩, .int .i64 s)]) (by kernel_rfl) (by kernel_rfl) (fun w' h => kA2.bel h) (fun W3 hW3 hcell => ?_)
    repeat (first
      | go_big_quiet_skip
      | (go_big_quiet_want; go_big_quiet_op; go_big_quiet_on)
      | (refine Quiet.val _ _ (by rfl) (by (intro w' hC; have u := hcell w' hC; simp only [Quiet.has_cons, Quiet.has_nil, and_true] at u; obtain ⟨u0, u1, u2, u3, u4, u5, u6⟩ := u; go_simp; with_reducible rfl)) (by (simp only [Act.put, List.setIfInBounds_toArray, List.set_cons_zero, List.set_cons_succ]; rfl)) ?_))
    refine Quiet.done ?_
    intro w3 hbel
    have B3 := Aside0.mk (Quiet.Bel.out hB3.out hW3 hbel)
    clear hbel hcell hW3
    go_wp2
    go_ret
    exact ⟨rfl, by repeat (with_reducible first | exact B3.out | apply below_alloc | apply below_drew1 | apply pw_below_drewN)⟩
  · go_enter Try.func8, Try.ntmps8
    go_wp2_with fail
    refine (crossbucklaw20_small.calls true _ rfl).mono ?_
    rintro e w1 ⟨rfl, hb1⟩
    have H1 := Aside0.mk hb1
    have k1 : Quiet.Has w1 [(⟨w.heap.size, 0, none⟩, .int .i64 5), (⟨w.heap.size, 1, none⟩, .int .i64 s)] := Quiet.Has.bel (by simp only [Quiet.has_cons, Quiet.has_nil, and_true]; refine ⟨?_, ?_⟩ <;> go_simp) hb1
    clear hb1
    have u := k1
    simp only [Quiet.has_cons, Quiet.has_nil, and_true] at u
    obtain ⟨u0, u1⟩ := u
    go_wp2_with fail
    refine (phase_Lights.calls 5 s false true false true true _ rfl).mono ?_
    rintro e w2 ⟨rfl, hb2⟩
    have H2 := Aside0.mk hb2
    have k2 := k1.bel hb2
    clear u0 u1
    clear hb2
    have kA2 := ((((((k2.alloc (.cells #[.bool false, .bool true, .bool false, .bool true, .bool true] 38)).more (show _ = some (.bool false) from Quiet.alloc_cell 0)).more (show _ = some (.bool true) from Quiet.alloc_cell 1)).more (show _ = some (.bool false) from Quiet.alloc_cell 2)).more (show _ = some (.bool true) from Quiet.alloc_cell 3)).more (show _ = some (.bool true) from Quiet.alloc_cell 4))
    have u := kA2
    simp only [Quiet.has_cons, Quiet.has_nil, and_true] at u
    obtain ⟨u0, u1, u2, u3, u4, u5, u6⟩ := u
    go_wp2_with fail
    have hB3 := Aside0.mk (show Below w.heap.size w (w2.alloc (.cells #[.bool false, .bool true, .bool false, .bool true, .bool true] 38)) from by repeat (with_reducible first | exact Below.refl _ _ | apply below_alloc | apply below_drew1 | apply pw_below_drewN | refine below_step ?_ H1.out | refine below_step ?_ H2.out))
    clear u0 u1 u2 u3 u4 u5 u6
    refine Quiet.start (fun w' => Quiet.Has w' [(⟨w2.heap.size, 4, none⟩, .bool true), (⟨w2.heap.size, 3, none⟩, .bool true), (⟨w2.heap.size, 2, none⟩, .bool false), (⟨w2.heap.size, 1, none⟩, .bool true), (⟨w2.heap.size, 0, none⟩, .bool false), (⟨w.heap.size, 0, none⟩, .int .i64 5), (⟨w.heap.size, 1, none⟩, .int .i64 s)]) (by kernel_rfl) (by kernel_rfl) (fun w' h => kA2.bel h) (fun W3 hW3 hcell => ?_)
    repeat (first
      | go_big_quiet_skip
      | (go_big_quiet_want; go_big_quiet_op; go_big_quiet_on)
      | (refine Quiet.val _ _ (by rfl) (by (intro w' hC; have u := hcell w' hC; simp only [Quiet.has_cons, Quiet.has_nil, and_true] at u; obtain ⟨u0, u1, u2, u3, u4, u5, u6⟩ := u; go_simp; with_reducible rfl)) (by (simp only [Act.put, List.setIfInBounds_toArray, List.set_cons_zero, List.set_cons_succ]; rfl)) ?_))
    refine Quiet.done ?_
    intro w3 hbel
    have B3 := Aside0.mk (Quiet.Bel.out hB3.out hW3 hbel)
    clear hbel hcell hW3
    go_wp2
    go_ret
    exact ⟨rfl, by repeat (with_reducible first | exact B3.out | apply below_alloc | apply below_drew1 | apply pw_below_drewN)⟩
  · go_enter Try.func8, Try.ntmps8
    go_wp2_with fail
    refine (crossbucklaw20_small.calls true _ rfl).mono ?_
    rintro e w1 ⟨rfl, hb1⟩
    have H1 := Aside0.mk hb1
    have k1 : Quiet.Has w1 [(⟨w.heap.size, 0, none⟩, .int .i64 6), (⟨w.heap.size, 1, none⟩, .int .i64 s)] := Quiet.Has.bel (by simp only [Quiet.has_cons, Quiet.has_nil, and_true]; refine ⟨?_, ?_⟩ <;> go_simp) hb1
    clear hb1
    have u := k1
    simp only [Quiet.has_cons, Quiet.has_nil, and_true] at u
    obtain ⟨u0, u1⟩ := u
    go_wp2_with fail
    refine (phase_Lights.calls 6 s false true false false false _ rfl).mono ?_
    rintro e w2 ⟨rfl, hb2⟩
    have H2 := Aside0.mk hb2
    have k2 := k1.bel hb2
    clear u0 u1
    clear hb2
    have kA2 := ((((((k2.alloc (.cells #[.bool false, .bool true, .bool false, .bool false, .bool false] 38)).more (show _ = some (.bool false) from Quiet.alloc_cell 0)).more (show _ = some (.bool true) from Quiet.alloc_cell 1)).more (show _ = some (.bool false) from Quiet.alloc_cell 2)).more (show _ = some (.bool false) from Quiet.alloc_cell 3)).more (show _ = some (.bool false) from Quiet.alloc_cell 4))
    have u := kA2
    simp only [Quiet.has_cons, Quiet.has_nil, and_true] at u
    obtain ⟨u0, u1, u2, u3, u4, u5, u6⟩ := u
    go_wp2_with fail
    have hB3 := Aside0.mk (show Below w.heap.size w (w2.alloc (.cells #[.bool false, .bool true, .bool false, .bool false, .bool false] 38)) from by repeat (with_reducible first | exact Below.refl _ _ | apply below_alloc | apply below_drew1 | apply pw_below_drewN | refine below_step ?_ H1.out | refine below_step ?_ H2.out))
    clear u0 u1 u2 u3 u4 u5 u6
    refine Quiet.start (fun w' => Quiet.Has w' [(⟨w2.heap.size, 4, none⟩, .bool false), (⟨w2.heap.size, 3, none⟩, .bool false), (⟨w2.heap.size, 2, none⟩, .bool false), (⟨w2.heap.size, 1, none⟩, .bool true), (⟨w2.heap.size, 0, none⟩, .bool false), (⟨w.heap.size, 0, none⟩, .int .i64 6), (⟨w.heap.size, 1, none⟩, .int .i64 s)]) (by kernel_rfl) (by kernel_rfl) (fun w' h => kA2.bel h) (fun W3 hW3 hcell => ?_)
    repeat (first
      | go_big_quiet_skip
      | (go_big_quiet_want; go_big_quiet_op; go_big_quiet_on)
      | (refine Quiet.val _ _ (by rfl) (by (intro w' hC; have u := hcell w' hC; simp only [Quiet.has_cons, Quiet.has_nil, and_true] at u; obtain ⟨u0, u1, u2, u3, u4, u5, u6⟩ := u; go_simp; with_reducible rfl)) (by (simp only [Act.put, List.setIfInBounds_toArray, List.set_cons_zero, List.set_cons_succ]; rfl)) ?_))
    refine Quiet.done ?_
    intro w3 hbel
    have B3 := Aside0.mk (Quiet.Bel.out hB3.out hW3 hbel)
    clear hbel hcell hW3
    go_wp2
    go_ret
    exact ⟨rfl, by repeat (with_reducible first | exact B3.out | apply below_alloc | apply below_drew1 | apply pw_below_drewN)⟩
  · go_enter Try.func8, Try.ntmps8
    go_wp2_with fail
    refine (crossbucklaw20_small.calls true _ rfl).mono ?_
    rintro e w1 ⟨rfl, hb1⟩
    have H1 := Aside0.mk hb1
    have k1 : Quiet.Has w1 [(⟨w.heap.size, 0, none⟩, .int .i64 7), (⟨w.heap.size, 1, none⟩, .int .i64 s)] := Quiet.Has.bel (by simp only [Quiet.has_cons, Quiet.has_nil, and_true]; refine ⟨?_, ?_⟩ <;> go_simp) hb1
    clear hb1
    have u := k1
    simp only [Quiet.has_cons, Quiet.has_nil, and_true] at u
    obtain ⟨u0, u1⟩ := u
    go_wp2_with fail
    refine (phase_Lights.calls 7 s false true true true true _ rfl).mono ?_
    rintro e w2 ⟨rfl, hb2⟩
    have H2 := Aside0.mk hb2
    have k2 := k1.bel hb2
    clear u0 u1
    clear hb2
    have kA2 := ((((((k2.alloc (.cells #[.bool false, .bool true, .bool true, .bool true, .bool true] 38)).more (show _ = some (.bool false) from Quiet.alloc_cell 0)).more (show _ = some (.bool true) from Quiet.alloc_cell 1)).more (show _ = some (.bool true) from Quiet.alloc_cell 2)).more (show _ = some (.bool true) from Quiet.alloc_cell 3)).more (show _ = some (.bool true) from Quiet.alloc_cell 4))
    have u := kA2
    simp only [Quiet.has_cons, Quiet.has_nil, and_true] at u
    obtain ⟨u0, u1, u2, u3, u4, u5, u6⟩ := u
    go_wp2_with fail
    have hB3 := Aside0.mk (show Below w.heap.size w (w2.alloc (.cells #[.bool false, .bool true, .bool true, .bool true, .bool true] 38)) from by repeat (with_reducible first | exact Below.refl _ _ | apply below_alloc | apply below_drew1 | apply pw_below_drewN | refine below_step ?_ H1.out | refine below_step ?_ H2.out))
    clear u0 u1 u2 u3 u4 u5 u6
    refine Quiet.start (fun w' => Quiet.Has w' [(⟨w2.heap.size, 4, none⟩, .bool true), (⟨w2.heap.size, 3, none⟩, .bool true), (⟨w2.heap.size, 2, none⟩, .bool true), (⟨w2.heap.size, 1, none⟩, .bool true), (⟨w2.heap.size, 0, none⟩, .bool false), (⟨w.heap.size, 0, none⟩, .int .i64 7), (⟨w.heap.size, 1, none⟩, .int .i64 s)]) (by kernel_rfl) (by kernel_rfl) (fun w' h => kA2.bel h) (fun W3 hW3 hcell => ?_)
    repeat (first
      | go_big_quiet_skip
      | (go_big_quiet_want; go_big_quiet_op; go_big_quiet_on)
      | (refine Quiet.val _ _ (by rfl) (by (intro w' hC; have u := hcell w' hC; simp only [Quiet.has_cons, Quiet.has_nil, and_true] at u; obtain ⟨u0, u1, u2, u3, u4, u5, u6⟩ := u; go_simp; with_reducible rfl)) (by (simp only [Act.put, List.setIfInBounds_toArray, List.set_cons_zero, List.set_cons_succ]; rfl)) ?_))
    refine Quiet.done ?_
    intro w3 hbel
    have B3 := Aside0.mk (Quiet.Bel.out hB3.out hW3 hbel)
    clear hbel hcell hW3
    go_wp2
    go_ret
    exact ⟨rfl, by repeat (with_reducible first | exact B3.out | apply below_alloc | apply below_drew1 | apply pw_below_drewN)⟩
end Go.Proofs.Ytngmjmcamkfopaa.A
