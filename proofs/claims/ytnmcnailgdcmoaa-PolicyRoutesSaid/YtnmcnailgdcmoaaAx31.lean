/- PolicyRoutes walked: each route counts by itself. -/
import Derived.Test.YtnmcnailgdcmoaaPureSig
import Derived.Outline
import Derived.Outline
import Derived.Deep.RegionHeld3
import Derived.Deep.DrawnRows
import Derived.Deep.QuietTactic
import Derived.BigQuiet
import Derived.BigRegion
import Derived.Deep.RegionWith
namespace Go.Proofs.Ytnmcnailgdcmoaa.A
open Go.RowKit Go.Proofs.YtnmcnailgdcmoaaW.PrintWords Go.Proofs.YtnmcnailgdcmoaaW.PrintLast Go.Proofs.YtnmcnailgdcmoaaW.PrintMore
set_option linter.unusedVariables false
set_option linter.unusedSimpArgs false
attribute [local go_sem] Quiet.bel_all
attribute [local go_sem ↓] Go.wp_at_zero Go.wp_at_succ
namespace Routes
theorem cell_alloc_ltP {w : World} {o : Obj} {b k : Nat} {e} (h : b < w.heap.size) : (w.alloc o).cell? ⟨b, k, e⟩ = w.cell? ⟨b, k, e⟩ := World.cell?_of_block (w := w) (Below.heap_alloc w o b h)
attribute [local go_sem] cell_alloc_ltP
set_option maxHeartbeats 40000000 in
set_option maxRecDepth 100000 in
theorem core (K : Nat) (w : World) (a0_0 a0_1 a0_2 a0_3 a0_4 a0_5 a0_6 : Bool) (a0_7 : Int) (a0_8 a0_9 : Bool) (a0_10 : Int) (A0_11 : Option Addr) (c0_11 : Nat) (l0_11 : List S34) (A1 : Option Addr) (c1 : Nat) (l1 : List S31) (a2_0 a2_1 : Int) (a3 : Bool) (a4 : Int) (hr0 : Kd.C k34 w A0_11 l0_11.length l0_11) (hc0 : l0_11.length ≤ c0_11) (hr1 : Kd.C k31 w A1 l1.length l1) (hc1 : l1.length ≤ c1) (k0 : 0 ≤ a4) (k8 : a4 < 8) (kl : a4 < l1.length) (h8 : (l1.length : Int) ≤ 8) (r0 : 0 ≤ a0_10) (r8 : a0_10 ≤ 255)
    (p q m : Int) (hp : policy_Signals.f K a0_0 a0_1 a0_2 a0_3 a0_4 a0_5 a0_6 a0_7 a0_8 a0_9 (bits .andNot .i64 a0_10 (wrap64 (2 ^ a4.toNat))) l0_11 l1 a2_0 a2_1 a3 = some p) (hq : policy_Signals.f K a0_0 a0_1 a0_2 a0_3 a0_4 a0_5 a0_6 a0_7 a0_8 a0_9 (bits .or .i64 a0_10 (wrap64 (2 ^ a4.toNat))) l0_11 l1 a2_0 a2_1 a3 = some q) (hm : policy_Signals.f K a0_0 a0_1 a0_2 a0_3 a0_4 a0_5 a0_6 a0_7 a0_8 a0_9 a0_10 l0_11 l1 a2_0 a2_1 a3 = some m) (h1 : bits .and .i64 p (wrap64 (2 ^ a4.toNat)) = 0)
    (h2 : (q = 0 ∧ p = 0 ∧ m = 0) ∨ (q ≠ 0 ∧ q = bits .or .i64 p (wrap64 (2 ^ a4.toNat)) ∧ m = p) ∨ (q ≠ 0 ∧ q = bits .or .i64 p (wrap64 (2 ^ a4.toNat)) ∧ m ≠ p ∧ m = q)) :
    Calls Try.prog 12 #[.agg #[.bool a0_0, .bool a0_1, .bool a0_2, .bool a0_3, .bool a0_4, .bool a0_5, .bool a0_6, .int .i64 a0_7, .bool a0_8, .bool a0_9, .int .i64 a0_10, .slice A0_11 l0_11.length c0_11], .slice A1 l1.length c1, .agg #[.int .i64 a2_0, .int .i64 a2_1], .bool a3, .int .i64 a4] w fun e w' => e = .returned (.bool true) ∧ Below w.heap.size w w' := by
  have g1 : decide ((l1.length : Int) > 8) = false := decide_eq_false (by omega)
  have g2 : decide (a4 < 0) = false := decide_eq_false (by omega)
  have g3 : decide (a4 ≥ (l1.length : Int)) = false := decide_eq_false (by omega)
  have g3' : decide ((l1.length : Int) ≤ a4) = false := decide_eq_false (by omega)
  have g1' : decide ((8 : Int) < (l1.length : Int)) = false := decide_eq_false (by omega)
  have g1n : decide (8 < l1.length) = false := decide_eq_false (by omega)
  have g4 : decide (a0_10 < 0) = false := decide_eq_false (by omega)
  have g5 : decide (255 < a0_10) = false := decide_eq_false (by omega)
  have HR0 := Aside0.mk hr0
  have HC0 := Aside0.mk hc0
  have HR1 := Aside0.mk hr1
  have HC1 := Aside0.mk hc1
  have HP := Aside0.mk hp
  have HQ := Aside0.mk hq
  have HM := Aside0.mk hm
  have G1 := Aside0.mk h1
  have G2 := Aside0.mk h2
  clear kl h8 hr0 hc0 hr1 hc1 hp hq hm h1 h2
  go_enter Try.func12, Try.ntmps12
  go_wp2_with fail
  refine (crossbucklaw23_small.calls true _ rfl).mono ?_
  rintro e w1 ⟨rfl, hb1⟩
  have H1 := Aside0.mk hb1
  have k1 : Quiet.Has w1 [(⟨w.heap.size, 0, none⟩, .bool a0_0), (⟨w.heap.size, 1, none⟩, .bool a0_1), (⟨w.heap.size, 2, none⟩, .bool a0_2), (⟨w.heap.size, 3, none⟩, .bool a0_3), (⟨w.heap.size, 4, none⟩, .bool a0_4), (⟨w.heap.size, 5, none⟩, .bool a0_5), (⟨w.heap.size, 6, none⟩, .bool a0_6), (⟨w.heap.size, 7, none⟩, .int .i64 a0_7), (⟨w.heap.size, 8, none⟩, .bool a0_8), (⟨w.heap.size, 9, none⟩, .bool a0_9), (⟨w.heap.size, 10, none⟩, .int .i64 a0_10), (⟨w.heap.size, 11, none⟩, .slice A0_11 l0_11.length c0_11), (⟨w.heap.size + 1, 0, none⟩, .int .i64 a2_0), (⟨w.heap.size + 1, 1, none⟩, .int .i64 a2_1)] := Quiet.Has.bel (by simp only [Quiet.has_cons, Quiet.has_nil, and_true]; refine ⟨?_, ?_, ?_, ?_, ?_, ?_, ?_, ?_, ?_, ?_, ?_, ?_, ?_, ?_⟩ <;> go_simp) hb1
  have s0 : w.heap.size < w1.heap.size := by have := hb1.size; simp at this; omega
  have s1 : w.heap.size + 1 < w1.heap.size := by have := hb1.size; simp at this; omega
  clear hb1
  have u := k1
  simp only [Quiet.has_cons, Quiet.has_nil, and_true] at u
  obtain ⟨u0, u1, u2, u3, u4, u5, u6, u7, u8, u9, u10, u11, u12, u13⟩ := u
  go_wp2_with fail
  refine (policy_Signals.calls K a0_0 a0_1 a0_2 a0_3 a0_4 a0_5 a0_6 a0_7 a0_8 a0_9 _ A0_11 c0_11 l0_11 A1 c1 l1 a2_0 a2_1 a3 p _ (Kd.C_below HR0.out (by repeat (with_reducible first | exact Below.refl _ _ | refine Quiet.Bel.set ?_ (by omega) | apply below_alloc | apply below_drew1 | apply pw_below_drewN | refine below_step ?_ H1.out))) HC0.out (Kd.C_below HR1.out (by repeat (with_reducible first | exact Below.refl _ _ | refine Quiet.Bel.set ?_ (by omega) | apply below_alloc | apply below_drew1 | apply pw_below_drewN | refine below_step ?_ H1.out))) HC1.out HP.out).mono ?_
  rintro e w2 ⟨rfl, hb2⟩
  have H2 := Aside0.mk hb2
  have k2 : Quiet.Has w2 [(⟨w.heap.size, 0, none⟩, .bool a0_0), (⟨w.heap.size, 1, none⟩, .bool a0_1), (⟨w.heap.size, 2, none⟩, .bool a0_2), (⟨w.heap.size, 3, none⟩, .bool a0_3), (⟨w.heap.size, 4, none⟩, .bool a0_4), (⟨w.heap.size, 5, none⟩, .bool a0_5), (⟨w.heap.size, 6, none⟩, .bool a0_6), (⟨w.heap.size, 7, none⟩, .int .i64 a0_7), (⟨w.heap.size, 8, none⟩, .bool a0_8), (⟨w.heap.size, 9, none⟩, .bool a0_9), (⟨w.heap.size, 10, none⟩, .int .i64 a0_10), (⟨w.heap.size, 11, none⟩, .slice A0_11 l0_11.length c0_11), (⟨w.heap.size + 1, 0, none⟩, .int .i64 a2_0), (⟨w.heap.size + 1, 1, none⟩, .int .i64 a2_1), (⟨w1.heap.size, 0, none⟩, .bool a0_0), (⟨w1.heap.size, 1, none⟩, .bool a0_1), (⟨w1.heap.size, 2, none⟩, .bool a0_2), (⟨w1.heap.size, 3, none⟩, .bool a0_3), (⟨w1.heap.size, 4, none⟩, .bool a0_4), (⟨w1.heap.size, 5, none⟩, .bool a0_5), (⟨w1.heap.size, 6, none⟩, .bool a0_6), (⟨w1.heap.size, 7, none⟩, .int .i64 a0_7), (⟨w1.heap.size, 8, none⟩, .bool a0_8), (⟨w1.heap.size, 9, none⟩, .bool a0_9), (⟨w1.heap.size, 10, none⟩, .int .i64 (bits .andNot .i64 a0_10 (wrap64 (2 ^ a4.toNat)))), (⟨w1.heap.size, 11, none⟩, .slice A0_11 l0_11.length c0_11), (⟨w1.heap.size + 1, 0, none⟩, .bool a0_0), (⟨w1.heap.size + 1, 1, none⟩, .bool a0_1), (⟨w1.heap.size + 1, 2, none⟩, .bool a0_2), (⟨w1.heap.size + 1, 3, none⟩, .bool a0_3), (⟨w1.heap.size + 1, 4, none⟩, .bool a0_4), (⟨w1.heap.size + 1, 5, none⟩, .bool a0_5), (⟨w1.heap.size + 1, 6, none⟩, .bool a0_6), (⟨w1.heap.size + 1, 7, none⟩, .int .i64 a0_7), (⟨w1.heap.size + 1, 8, none⟩, .bool a0_8), (⟨w1.heap.size + 1, 9, none⟩, .bool a0_9), (⟨w1.heap.size + 1, 10, none⟩, .int .i64 (bits .or .i64 a0_10 (wrap64 (2 ^ a4.toNat)))), (⟨w1.heap.size + 1, 11, none⟩, .slice A0_11 l0_11.length c0_11)] := Quiet.Has.bel (by simp only [Quiet.has_cons, Quiet.has_nil, and_true]; refine ⟨?_, ?_, ?_, ?_, ?_, ?_, ?_, ?_, ?_, ?_, ?_, ?_, ?_, ?_, ?_, ?_, ?_, ?_, ?_, ?_, ?_, ?_, ?_, ?_, ?_, ?_, ?_, ?_, ?_, ?_, ?_, ?_, ?_, ?_, ?_, ?_, ?_, ?_⟩ <;> go_simp) hb2
  clear u0 u1 u2 u3 u4 u5 u6 u7 u8 u9 u10 u11 u12 u13
  clear hb2
  have u := k2
  simp only [Quiet.has_cons, Quiet.has_nil, and_true] at u
  obtain ⟨u0, u1, u2, u3, u4, u5, u6, u7, u8, u9, u10, u11, u12, u13, u14, u15, u16, u17, u18, u19, u20, u21, u22, u23, u24, u25, u26, u27, u28, u29, u30, u31, u32, u33, u34, u35, u36, u37⟩ := u
  go_wp2_with fail
  refine (policy_Signals.calls K a0_0 a0_1 a0_2 a0_3 a0_4 a0_5 a0_6 a0_7 a0_8 a0_9 _ A0_11 c0_11 l0_11 A1 c1 l1 a2_0 a2_1 a3 q _ (Kd.C_below HR0.out (by repeat (with_reducible first | exact Below.refl _ _ | refine Quiet.Bel.set ?_ (by omega) | apply below_alloc | apply below_drew1 | apply pw_below_drewN | refine below_step ?_ H1.out | refine below_step ?_ H2.out))) HC0.out (Kd.C_below HR1.out (by repeat (with_reducible first | exact Below.refl _ _ | refine Quiet.Bel.set ?_ (by omega) | apply below_alloc | apply below_drew1 | apply pw_below_drewN | refine below_step ?_ H1.out | refine below_step ?_ H2.out))) HC1.out HQ.out).mono ?_
  rintro e w3 ⟨rfl, hb3⟩
  have H3 := Aside0.mk hb3
  have k3 := k2.bel hb3
  clear u0 u1 u2 u3 u4 u5 u6 u7 u8 u9 u10 u11 u12 u13 u14 u15 u16 u17 u18 u19 u20 u21 u22 u23 u24 u25 u26 u27 u28 u29 u30 u31 u32 u33 u34 u35 u36 u37
  clear hb3
  have u := k3
  simp only [Quiet.has_cons, Quiet.has_nil, and_true] at u
  obtain ⟨u0, u1, u2, u3, u4, u5, u6, u7, u8, u9, u10, u11, u12, u13, u14, u15, u16, u17, u18, u19, u20, u21, u22, u23, u24, u25, u26, u27, u28, u29, u30, u31, u32, u33, u34, u35, u36, u37⟩ := u
  have h1 := G1.out
  have h2 := G2.out
  clear G1 G2
  have e1 : (bits .and .i64 p (wrap64 (2 ^ a4.toNat)) == 0) = true := beq_iff_eq.mpr h1
  clear h1
  rcases h2 with ⟨rfl, rfl, rfl⟩ | ⟨h3, h4, rfl⟩ | ⟨h3, h4, h5, rfl⟩
  · skip
    go_wp2_with fail
    refine (policy_Signals.calls K a0_0 a0_1 a0_2 a0_3 a0_4 a0_5 a0_6 a0_7 a0_8 a0_9 _ A0_11 c0_11 l0_11 A1 c1 l1 a2_0 a2_1 a3 0 _ (Kd.C_below HR0.out (by repeat (with_reducible first | exact Below.refl _ _ | refine Quiet.Bel.set ?_ (by omega) | apply below_alloc | apply below_drew1 | apply pw_below_drewN | refine below_step ?_ H1.out | refine below_step ?_ H2.out | refine below_step ?_ H3.out))) HC0.out (Kd.C_below HR1.out (by repeat (with_reducible first | exact Below.refl _ _ | refine Quiet.Bel.set ?_ (by omega) | apply below_alloc | apply below_drew1 | apply pw_below_drewN | refine below_step ?_ H1.out | refine below_step ?_ H2.out | refine below_step ?_ H3.out))) HC1.out HM.out).mono ?_
    rintro e w4 ⟨rfl, hb4⟩
    have H4 := Aside0.mk hb4
    have k4 := k3.bel hb4
    clear u0 u1 u2 u3 u4 u5 u6 u7 u8 u9 u10 u11 u12 u13 u14 u15 u16 u17 u18 u19 u20 u21 u22 u23 u24 u25 u26 u27 u28 u29 u30 u31 u32 u33 u34 u35 u36 u37
    clear hb4
    have u := k4
    simp only [Quiet.has_cons, Quiet.has_nil, and_true] at u
    obtain ⟨u0, u1, u2, u3, u4, u5, u6, u7, u8, u9, u10, u11, u12, u13, u14, u15, u16, u17, u18, u19, u20, u21, u22, u23, u24, u25, u26, u27, u28, u29, u30, u31, u32, u33, u34, u35, u36, u37⟩ := u
    go_wp2_with fail
    go_ret
    exact ⟨rfl, by repeat (with_reducible first | exact Below.refl _ _ | refine Quiet.Bel.set ?_ (by omega) | apply below_alloc | apply below_drew1 | apply pw_below_drewN | refine below_step ?_ H1.out | refine below_step ?_ H2.out | refine below_step ?_ H3.out | refine below_step ?_ H4.out)⟩
  · skip
    have n1 : (q == 0) = false := beq_eq_false_iff_ne.2 h3
    have n2 : decide (q = 0) = false := decide_eq_false h3
    have n3 : (q == bits .or .i64 m (wrap64 (2 ^ a4.toNat))) = true := beq_iff_eq.mpr h4
    clear h3 h4
    have n4 : (m == m) = true := beq_self_eq_true m
    go_wp2_with fail
    refine (policy_Signals.calls K a0_0 a0_1 a0_2 a0_3 a0_4 a0_5 a0_6 a0_7 a0_8 a0_9 _ A0_11 c0_11 l0_11 A1 c1 l1 a2_0 a2_1 a3 m _ (Kd.C_below HR0.out (by repeat (with_reducible first | exact Below.refl _ _ | refine Quiet.Bel.set ?_ (by omega) | apply below_alloc | apply below_drew1 | apply pw_below_drewN | refine below_step ?_ H1.out | refine below_step ?_ H2.out | refine below_step ?_ H3.out))) HC0.out (Kd.C_below HR1.out (by repeat (with_reducible first | exact Below.refl _ _ | refine Quiet.Bel.set ?_ (by omega) | apply below_alloc | apply below_drew1 | apply pw_below_drewN | refine below_step ?_ H1.out | refine below_step ?_ H2.out | refine below_step ?_ H3.out))) HC1.out HM.out).mono ?_
    rintro e w4 ⟨rfl, hb4⟩
    have H4 := Aside0.mk hb4
    have k4 := k3.bel hb4
    clear u0 u1 u2 u3 u4 u5 u6 u7 u8 u9 u10 u11 u12 u13 u14 u15 u16 u17 u18 u19 u20 u21 u22 u23 u24 u25 u26 u27 u28 u29 u30 u31 u32 u33 u34 u35 u36 u37
    clear hb4
    have u := k4
    simp only [Quiet.has_cons, Quiet.has_nil, and_true] at u
    obtain ⟨u0, u1, u2, u3, u4, u5, u6, u7, u8, u9, u10, u11, u12, u13, u14, u15, u16, u17, u18, u19, u20, u21, u22, u23, u24, u25, u26, u27, u28, u29, u30, u31, u32, u33, u34, u35, u36, u37⟩ := u
    go_wp2_with fail
    go_ret
    exact ⟨rfl, by repeat (with_reducible first | exact Below.refl _ _ | refine Quiet.Bel.set ?_ (by omega) | apply below_alloc | apply below_drew1 | apply pw_below_drewN | refine below_step ?_ H1.out | refine below_step ?_ H2.out | refine below_step ?_ H3.out | refine below_step ?_ H4.out)⟩
  · skip
    have n5 : (m == p) = false := beq_eq_false_iff_ne.2 h5
    have n6 : (m == m) = true := beq_self_eq_true m
    clear h5
    have n1 : (m == 0) = false := beq_eq_false_iff_ne.2 h3
    have n2 : decide (m = 0) = false := decide_eq_false h3
    have n3 : (m == bits .or .i64 p (wrap64 (2 ^ a4.toNat))) = true := beq_iff_eq.mpr h4
    clear h3 h4
    go_wp2_with fail
    refine (policy_Signals.calls K a0_0 a0_1 a0_2 a0_3 a0_4 a0_5 a0_6 a0_7 a0_8 a0_9 _ A0_11 c0_11 l0_11 A1 c1 l1 a2_0 a2_1 a3 m _ (Kd.C_below HR0.out (by repeat (with_reducible first | exact Below.refl _ _ | refine Quiet.Bel.set ?_ (by omega) | apply below_alloc | apply below_drew1 | apply pw_below_drewN | refine below_step ?_ H1.out | refine below_step ?_ H2.out | refine below_step ?_ H3.out))) HC0.out (Kd.C_below HR1.out (by repeat (with_reducible first | exact Below.refl _ _ | refine Quiet.Bel.set ?_ (by omega) | apply below_alloc | apply below_drew1 | apply pw_below_drewN | refine below_step ?_ H1.out | refine below_step ?_ H2.out | refine below_step ?_ H3.out))) HC1.out HM.out).mono ?_
    rintro e w4 ⟨rfl, hb4⟩
    have H4 := Aside0.mk hb4
    have k4 := k3.bel hb4
    clear u0 u1 u2 u3 u4 u5 u6 u7 u8 u9 u10 u11 u12 u13 u14 u15 u16 u17 u18 u19 u20 u21 u22 u23 u24 u25 u26 u27 u28 u29 u30 u31 u32 u33 u34 u35 u36 u37
    clear hb4
    have u := k4
    simp only [Quiet.has_cons, Quiet.has_nil, and_true] at u
    obtain ⟨u0, u1, u2, u3, u4, u5, u6, u7, u8, u9, u10, u11, u12, u13, u14, u15, u16, u17, u18, u19, u20, u21, u22, u23, u24, u25, u26, u27, u28, u29, u30, u31, u32, u33, u34, u35, u36, u37⟩ := u
    go_wp2_with fail
    refine (policy_Signals.calls K a0_0 a0_1 a0_2 a0_3 a0_4 a0_5 a0_6 a0_7 a0_8 a0_9 _ A0_11 c0_11 l0_11 A1 c1 l1 a2_0 a2_1 a3 m _ (Kd.C_below HR0.out (by repeat (with_reducible first | exact Below.refl _ _ | refine Quiet.Bel.set ?_ (by omega) | apply below_alloc | apply below_drew1 | apply pw_below_drewN | refine below_step ?_ H1.out | refine below_step ?_ H2.out | refine below_step ?_ H3.out | refine below_step ?_ H4.out))) HC0.out (Kd.C_below HR1.out (by repeat (with_reducible first | exact Below.refl _ _ | refine Quiet.Bel.set ?_ (by omega) | apply below_alloc | apply below_drew1 | apply pw_below_drewN | refine below_step ?_ H1.out | refine below_step ?_ H2.out | refine below_step ?_ H3.out | refine below_step ?_ H4.out))) HC1.out HM.out).mono ?_
    rintro e w5 ⟨rfl, hb5⟩
    have H5 := Aside0.mk hb5
    have k5 := k4.bel hb5
    clear u0 u1 u2 u3 u4 u5 u6 u7 u8 u9 u10 u11 u12 u13 u14 u15 u16 u17 u18 u19 u20 u21 u22 u23 u24 u25 u26 u27 u28 u29 u30 u31 u32 u33 u34 u35 u36 u37
    clear hb5
    have u := k5
    simp only [Quiet.has_cons, Quiet.has_nil, and_true] at u
    obtain ⟨u0, u1, u2, u3, u4, u5, u6, u7, u8, u9, u10, u11, u12, u13, u14, u15, u16, u17, u18, u19, u20, u21, u22, u23, u24, u25, u26, u27, u28, u29, u30, u31, u32, u33, u34, u35, u36, u37⟩ := u
    go_wp2_with fail
    go_ret
    exact ⟨rfl, by repeat (with_reducible first | exact Below.refl _ _ | refine Quiet.Bel.set ?_ (by omega) | apply below_alloc | apply below_drew1 | apply pw_below_drewN | refine below_step ?_ H1.out | refine below_step ?_ H2.out | refine below_step ?_ H3.out | refine below_step ?_ H4.out | refine below_step ?_ H5.out)⟩

set_option maxHeartbeats 40000000 in
set_option maxRecDepth 100000 in
theorem out (w : World) (a0_0 a0_1 a0_2 a0_3 a0_4 a0_5 a0_6 : Bool) (a0_7 : Int) (a0_8 a0_9 : Bool) (a0_10 : Int) (A0_11 : Option Addr) (c0_11 : Nat) (l0_11 : List S34) (A1 : Option Addr) (c1 : Nat) (l1 : List S31) (a2_0 a2_1 : Int) (a3 : Bool) (a4 : Int) (h : (l1.length : Int) > 8 ∨ a4 < 0 ∨ a4 ≥ l1.length ∨ a0_10 < 0 ∨ a0_10 > 255) :
    Calls Try.prog 12 #[.agg #[.bool a0_0, .bool a0_1, .bool a0_2, .bool a0_3, .bool a0_4, .bool a0_5, .bool a0_6, .int .i64 a0_7, .bool a0_8, .bool a0_9, .int .i64 a0_10, .slice A0_11 l0_11.length c0_11], .slice A1 l1.length c1, .agg #[.int .i64 a2_0, .int .i64 a2_1], .bool a3, .int .i64 a4] w fun e w' => e = .returned (.bool true) ∧ Below w.heap.size w w' := by
  by_cases c1 : (l1.length : Int) > 8
  · have g1 : decide ((l1.length : Int) > 8) = true := decide_eq_true c1
    have g1' : decide ((8 : Int) < (l1.length : Int)) = true := decide_eq_true c1
    have g1n : decide (8 < l1.length) = true := decide_eq_true (by omega)
    clear c1 h
    go_enter Try.func12, Try.ntmps12
    go_wp2_with fail
    refine (crossbucklaw23_small.calls true _ rfl).mono ?_
    rintro e w1 ⟨rfl, hb1⟩
    have H1 := Aside0.mk hb1
    clear hb1
    go_wp2_with fail
    go_ret
    exact ⟨rfl, by repeat (with_reducible first | exact Below.refl _ _ | apply below_alloc | refine below_step ?_ H1.out)⟩
  have g1 : decide ((l1.length : Int) > 8) = false := decide_eq_false c1
  have g1' : decide ((8 : Int) < (l1.length : Int)) = false := decide_eq_false c1
  have g1n : decide (8 < l1.length) = false := decide_eq_false (by omega)
  by_cases d0 : a4 < 0
  · have f0 : decide (a4 < 0) = true := decide_eq_true d0
    clear h
    go_enter Try.func12, Try.ntmps12
    go_wp2_with fail
    refine (crossbucklaw23_small.calls true _ rfl).mono ?_
    rintro e w1 ⟨rfl, hb1⟩
    have H1 := Aside0.mk hb1
    have k1 : Quiet.Has w1 [(⟨w.heap.size, 10, none⟩, .int .i64 a0_10)] := Quiet.Has.bel (by simp only [Quiet.has_cons, Quiet.has_nil, and_true]; go_simp) hb1
    simp only [Quiet.has_cons, Quiet.has_nil, and_true] at k1
    clear hb1
    go_wp2_with fail
    go_ret
    exact ⟨rfl, by repeat (with_reducible first | exact Below.refl _ _ | apply below_alloc | refine below_step ?_ H1.out)⟩
  have f0 : decide (a4 < 0) = false := decide_eq_false d0
  by_cases d1 : a4 ≥ (l1.length : Int)
  · have f1 : decide (a4 ≥ (l1.length : Int)) = true := decide_eq_true d1
    have f10 : decide ((l1.length : Int) ≤ a4) = true := decide_eq_true (by omega)
    clear h
    go_enter Try.func12, Try.ntmps12
    go_wp2_with fail
    refine (crossbucklaw23_small.calls true _ rfl).mono ?_
    rintro e w1 ⟨rfl, hb1⟩
    have H1 := Aside0.mk hb1
    have k1 : Quiet.Has w1 [(⟨w.heap.size, 10, none⟩, .int .i64 a0_10)] := Quiet.Has.bel (by simp only [Quiet.has_cons, Quiet.has_nil, and_true]; go_simp) hb1
    simp only [Quiet.has_cons, Quiet.has_nil, and_true] at k1
    clear hb1
    go_wp2_with fail
    go_ret
    exact ⟨rfl, by repeat (with_reducible first | exact Below.refl _ _ | apply below_alloc | refine below_step ?_ H1.out)⟩
  have f1 : decide (a4 ≥ (l1.length : Int)) = false := decide_eq_false d1
  have f10 : decide ((l1.length : Int) ≤ a4) = false := decide_eq_false (by omega)
  by_cases d2 : a0_10 < 0
  · have f2 : decide (a0_10 < 0) = true := decide_eq_true d2
    clear h
    go_enter Try.func12, Try.ntmps12
    go_wp2_with fail
    refine (crossbucklaw23_small.calls true _ rfl).mono ?_
    rintro e w1 ⟨rfl, hb1⟩
    have H1 := Aside0.mk hb1
    have k1 : Quiet.Has w1 [(⟨w.heap.size, 10, none⟩, .int .i64 a0_10)] := Quiet.Has.bel (by simp only [Quiet.has_cons, Quiet.has_nil, and_true]; go_simp) hb1
    simp only [Quiet.has_cons, Quiet.has_nil, and_true] at k1
    clear hb1
    go_wp2_with fail
    go_ret
    exact ⟨rfl, by repeat (with_reducible first | exact Below.refl _ _ | apply below_alloc | refine below_step ?_ H1.out)⟩
  have f2 : decide (a0_10 < 0) = false := decide_eq_false d2
  have f3 : decide (a0_10 > 255) = true := decide_eq_true (by omega)
  have f30 : decide (255 < a0_10) = true := decide_eq_true (by omega)
  clear h
  go_enter Try.func12, Try.ntmps12
  go_wp2_with fail
  refine (crossbucklaw23_small.calls true _ rfl).mono ?_
  rintro e w1 ⟨rfl, hb1⟩
  have H1 := Aside0.mk hb1
  have k1 : Quiet.Has w1 [(⟨w.heap.size, 10, none⟩, .int .i64 a0_10)] := Quiet.Has.bel (by simp only [Quiet.has_cons, Quiet.has_nil, and_true]; go_simp) hb1
  simp only [Quiet.has_cons, Quiet.has_nil, and_true] at k1
  clear hb1
  go_wp2_with fail
  go_ret
  exact ⟨rfl, by repeat (with_reducible first | exact Below.refl _ _ | apply below_alloc | refine below_step ?_ H1.out)⟩
theorem bits_all : ∀ (r : Fin 256) (k : Fin 8) (n : Fin 9), k.val < n.val →
    (0 ≤ bits .andNot .i64 (r.val : Int) (wrap64 (2 ^ k.val)) ∧ 0 ≤ bits .or .i64 (r.val : Int) (wrap64 (2 ^ k.val)) ∧
      bits .and .i64 (bits .andNot .i64 (r.val : Int) (wrap64 (2 ^ k.val)) % 2 ^ n.val) (wrap64 (2 ^ k.val)) = 0 ∧ bits .or .i64 (r.val : Int) (wrap64 (2 ^ k.val)) % 2 ^ n.val ≠ 0 ∧
      bits .or .i64 (r.val : Int) (wrap64 (2 ^ k.val)) % 2 ^ n.val = bits .or .i64 (bits .andNot .i64 (r.val : Int) (wrap64 (2 ^ k.val)) % 2 ^ n.val) (wrap64 (2 ^ k.val)) ∧
      ((r.val : Int) % 2 ^ n.val = bits .andNot .i64 (r.val : Int) (wrap64 (2 ^ k.val)) % 2 ^ n.val ∨ (r.val : Int) % 2 ^ n.val = bits .or .i64 (r.val : Int) (wrap64 (2 ^ k.val)) % 2 ^ n.val)) := by decide +kernel
theorem and_zero : ∀ k : Fin 8, bits .and .i64 0 (wrap64 (2 ^ k.val)) = 0 := by decide +kernel
theorem plain (a5 : Bool) (a7 : Int) (a8 : Bool) (r : Int) (l : List S31) (ph : Int) (pr : Bool) (k : Int) (k0 : 0 ≤ k) (kl : k < l.length) (h8 : (l.length : Int) ≤ 8) (r0 : 0 ≤ r) (r8 : r ≤ 255)
    (p q m : Int) (hp : Pure.sigV a5 a7 a8 (bits .andNot .i64 r (wrap64 (2 ^ k.toNat))) l ph pr = p) (hq : Pure.sigV a5 a7 a8 (bits .or .i64 r (wrap64 (2 ^ k.toNat))) l ph pr = q) (hm : Pure.sigV a5 a7 a8 r l ph pr = m) :
    bits .and .i64 p (wrap64 (2 ^ k.toNat)) = 0 ∧ ((q = 0 ∧ p = 0 ∧ m = 0) ∨ (q ≠ 0 ∧ q = bits .or .i64 p (wrap64 (2 ^ k.toNat)) ∧ m = p) ∨ (q ≠ 0 ∧ q = bits .or .i64 p (wrap64 (2 ^ k.toNat)) ∧ m ≠ p ∧ m = q)) := by
  obtain ⟨j, rfl⟩ : ∃ j : Nat, k = j := ⟨k.toNat, by omega⟩
  obtain ⟨r, rfl⟩ : ∃ s : Nat, r = s := ⟨r.toNat, by omega⟩
  simp only [Int.toNat_natCast] at *
  obtain ⟨b1, b2, b3, b4, b5, b6⟩ := bits_all ⟨r, by omega⟩ ⟨j, by omega⟩ ⟨l.length, by omega⟩ (by show j < l.length; omega)
  simp only at b1 b2 b3 b4 b5 b6
  have z := and_zero ⟨j, by omega⟩
  simp only at z
  by_cases c : ph = 5 ∧ pr = true ∧ a7 = 0 ∧ Pure.goodB a5 a7 a8 l = true
  · have e : ∀ x : Int, 0 ≤ x → Pure.sigV a5 a7 a8 x l ph pr = x % 2 ^ l.length := by
      intro x hx
      unfold Pure.sigV
      rw [if_pos ⟨c.1, c.2.1, c.2.2.1, c.2.2.2, hx⟩, Nat.min_eq_left (by omega)]
    rw [e _ b1] at hp
    rw [e _ b2] at hq
    rw [e _ r0] at hm
    subst hp hq hm
    refine ⟨b3, ?_⟩
    by_cases g : (r : Int) % 2 ^ l.length = bits .andNot .i64 (r : Int) (wrap64 (2 ^ j)) % 2 ^ l.length
    · exact Or.inr (Or.inl ⟨b4, b5, g⟩)
    · exact Or.inr (Or.inr ⟨b4, b5, g, b6.resolve_left g⟩)
  · have e : ∀ x : Int, Pure.sigV a5 a7 a8 x l ph pr = 0 := by
      intro x
      unfold Pure.sigV
      rw [if_neg (fun h => c ⟨h.1, h.2.1, h.2.2.1, h.2.2.2.1⟩)]
    rw [e] at hp hq hm
    subst hp hq hm
    exact ⟨z, Or.inl ⟨rfl, rfl, rfl⟩⟩
end Routes
def crossbucklaw23_PolicyRoutes.f (a0_0 : Bool) (a0_1 : Bool) (a0_2 : Bool) (a0_3 : Bool) (a0_4 : Bool) (a0_5 : Bool) (a0_6 : Bool) (a0_7 : Int) (a0_8 : Bool) (a0_9 : Bool) (a0_10 : Int) (l0_11 : List (S34)) (l1 : List (S31)) (a2_0 : Int) (a2_1 : Int) (a3 : Bool) (a4 : Int) : Option (Bool) := some true
theorem crossbucklaw23_PolicyRoutes.calls (a0_0 : Bool) (a0_1 : Bool) (a0_2 : Bool) (a0_3 : Bool) (a0_4 : Bool) (a0_5 : Bool) (a0_6 : Bool) (a0_7 : Int) (a0_8 : Bool) (a0_9 : Bool) (a0_10 : Int) (A0_11 : Option Addr) (c0_11 : Nat) (l0_11 : List (S34)) (A1 : Option Addr) (c1 : Nat) (l1 : List (S31)) (a2_0 : Int) (a2_1 : Int) (a3 : Bool) (a4 : Int) (r : Bool) (w : World) (hr0_11 : Kd.C k34 w A0_11 l0_11.length l0_11) (hc0_11 : l0_11.length ≤ c0_11) (hr1 : Kd.C k31 w A1 l1.length l1) (hc1 : l1.length ≤ c1) (h : crossbucklaw23_PolicyRoutes.f a0_0 a0_1 a0_2 a0_3 a0_4 a0_5 a0_6 a0_7 a0_8 a0_9 a0_10 l0_11 l1 a2_0 a2_1 a3 a4 = some r) :
    Calls Try.prog 12 #[.agg #[.bool a0_0, .bool a0_1, .bool a0_2, .bool a0_3, .bool a0_4, .bool a0_5, .bool a0_6, .int .i64 a0_7, .bool a0_8, .bool a0_9, .int .i64 a0_10, .slice A0_11 l0_11.length c0_11], .slice A1 l1.length c1, .agg #[.int .i64 a2_0, .int .i64 a2_1], .bool a3, .int .i64 a4] w fun e w' => e = .returned (.bool true) ∧ Below w.heap.size w w' := by
  obtain rfl : true = r := Option.some.inj h
  by_cases c : (l1.length : Int) > 8 ∨ a4 < 0 ∨ a4 ≥ l1.length ∨ a0_10 < 0 ∨ a0_10 > 255
  · exact Routes.out w a0_0 a0_1 a0_2 a0_3 a0_4 a0_5 a0_6 a0_7 a0_8 a0_9 a0_10 A0_11 c0_11 l0_11 A1 c1 l1 a2_0 a2_1 a3 a4 c
  · obtain ⟨K1, h1⟩ := Pure.sig_ev a0_0 a0_1 a0_2 a0_3 a0_4 a0_5 a0_6 a0_7 a0_8 a0_9 (bits .andNot .i64 a0_10 (wrap64 (2 ^ a4.toNat))) l0_11 l1 a2_0 a2_1 a3 (by omega)
    obtain ⟨K2, h2⟩ := Pure.sig_ev a0_0 a0_1 a0_2 a0_3 a0_4 a0_5 a0_6 a0_7 a0_8 a0_9 (bits .or .i64 a0_10 (wrap64 (2 ^ a4.toNat))) l0_11 l1 a2_0 a2_1 a3 (by omega)
    obtain ⟨K3, h3⟩ := Pure.sig_ev a0_0 a0_1 a0_2 a0_3 a0_4 a0_5 a0_6 a0_7 a0_8 a0_9 a0_10 l0_11 l1 a2_0 a2_1 a3 (by omega)
    obtain ⟨g1, g2⟩ := Routes.plain a0_5 a0_7 a0_8 a0_10 l1 a2_0 a3 a4 (by omega) (by omega) (by omega) (by omega) (by omega) _ _ _ rfl rfl rfl
    exact Routes.core (max K1 (max K2 K3)) w a0_0 a0_1 a0_2 a0_3 a0_4 a0_5 a0_6 a0_7 a0_8 a0_9 a0_10 A0_11 c0_11 l0_11 A1 c1 l1 a2_0 a2_1 a3 a4 hr0_11 hc0_11 hr1 hc1 (by omega) (by omega) (by omega) (by omega) (by omega) (by omega) _ _ _ (h1 _ (by omega)) (h2 _ (by omega)) (h3 _ (by omega)) g1 g2
end Go.Proofs.Ytnmcnailgdcmoaa.A
