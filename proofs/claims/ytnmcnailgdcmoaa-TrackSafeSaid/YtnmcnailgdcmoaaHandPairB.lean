/- What the calls of package pair answer, at any pair and any lie. -/
import Derived.Test.YtnmcnailgdcmoaaBx0
import Derived.Test.YtnmcnailgdcmoaaArith
import Derived.Test.YtnmcnailgdcmoaaHas
import Derived.Outline
import Derived.Deep.RegionHeld3
import Derived.Deep.DrawnRows
import Derived.Deep.QuietTactic
import Derived.BigQuiet
import Derived.BigRegion
import Derived.Deep.RegionWith
namespace Go.Proofs.Ytnmcnailgdcmoaa.B
open Go.RowKit Go.Proofs.YtnmcnailgdcmoaaW.PrintWords Go.Proofs.YtnmcnailgdcmoaaW.PrintLast Go.Proofs.YtnmcnailgdcmoaaW.PrintMore
set_option linter.unusedVariables false
set_option linter.unusedSimpArgs false
attribute [local go_sem] Quiet.bel_all
attribute [local go_sem ↓] Go.wp_at_zero Go.wp_at_succ

/-- The place of a lie in the order on. -/
def gray4 (x : Int) : Int := if x % 4 = 0 then 0 else if x % 4 = 1 then 1 else if x % 4 = 3 then 2 else 3
theorem gray4_cases (x : Int) : (gray4 x = 0 ∧ x % 4 = 0) ∨ (gray4 x = 1 ∧ x % 4 = 1) ∨ (gray4 x = 2 ∧ x % 4 = 3) ∨ (gray4 x = 3 ∧ x % 4 = 2) := by
  unfold gray4
  (repeat' split) <;> omega

theorem gray.at (x m g : Int) (hm : bits .and .i64 x 3 = m) (h : (m = 0 ∧ g = 0) ∨ (m = 1 ∧ g = 1) ∨ (m = 3 ∧ g = 2) ∨ (m = 2 ∧ g = 3)) (w : World) :
    Calls Try.prog 39 #[.int .i64 x] w fun e w' => e = .returned (.int .i64 g) ∧ w' = w := by
  rcases h with ⟨rfl, rfl⟩ | ⟨rfl, rfl⟩ | ⟨rfl, rfl⟩ | ⟨rfl, rfl⟩
  all_goals
    go_enter Try.func39, Try.ntmps39
    go_wp2
    go_ret
    exact ⟨rfl, rfl⟩
theorem gray.ends (x : Int) : ∃ g, gray4 x = g ∧ (g = 0 ∨ g = 1 ∨ g = 2 ∨ g = 3) ∧ ∀ w, Calls Try.prog 39 #[.int .i64 x] w fun e w' => e = .returned (.int .i64 g) ∧ w' = w := by
  have e := Arith.and3 x
  rcases gray4_cases x with ⟨h, hm⟩ | ⟨h, hm⟩ | ⟨h, hm⟩ | ⟨h, hm⟩
  · exact ⟨0, h, by simp, gray.at x 0 0 (by rw [e, hm]) (by simp)⟩
  · exact ⟨1, h, by simp, gray.at x 1 1 (by rw [e, hm]) (by simp)⟩
  · exact ⟨2, h, by simp, gray.at x 3 2 (by rw [e, hm]) (by simp)⟩
  · exact ⟨3, h, by simp, gray.at x 2 3 (by rw [e, hm]) (by simp)⟩

/-- Where a pair is a lie later. -/
def posN (way pos : Int) : Int := if way = 1 then (if pos < 9223372036854775807 then wrap64 (pos + 1) else pos) else if way = 3 then (if -9223372036854775808 < pos then wrap64 (pos - 1) else pos) else pos
def pair_Step.f (lie pos : Int) (jump : Bool) (a : Int) : Option (Int × Int × Bool) := some (a % 4, posN ((gray4 a - gray4 lie) % 4) pos, jump || decide ((gray4 a - gray4 lie) % 4 = 2))

set_option maxHeartbeats 4000000 in
set_option maxRecDepth 100000 in
theorem step_0 (p q : Int) (hpq : (p = 0 ∧ q = 0) ∨ (p = 1 ∧ q = 1) ∨ (p = 2 ∧ q = 2) ∨ (p = 3 ∧ q = 3)) (lie pos : Int) (jump : Bool) (a : Int) (w : World)
    (hG : ∀ w, Calls Try.prog 39 #[.int .i64 a] w fun e w' => e = .returned (.int .i64 p) ∧ w' = w)
    (hL : ∀ w, Calls Try.prog 39 #[.int .i64 lie] w fun e w' => e = .returned (.int .i64 q) ∧ w' = w) :
    Calls Try.prog 33 #[.agg #[.int .i64 lie, .int .i64 pos, .bool jump], .int .i64 a] w fun e w' => e = .returned (.agg #[.int .i64 (a % 4), .int .i64 (pos), .bool jump]) ∧ Below w.heap.size w w' := by
  have HG := Aside0.mk hG
  have HL := Aside0.mk hL
  have e1 := Arith.and3 a
  have hE := Aside0.mk e1
  clear hG hL e1
  rcases hpq with ⟨rfl, rfl⟩ | ⟨rfl, rfl⟩ | ⟨rfl, rfl⟩ | ⟨rfl, rfl⟩
  all_goals
    go_enter Try.func33, Try.ntmps33
    have k0 : Quiet.Has ((w.alloc (.cells #[.int .i64 lie, .int .i64 pos, .bool jump] 29)).alloc (.cells #[.int .i64 0, .int .i64 0, .bool false] 29)) [(⟨w.heap.size, 0, none⟩, .int .i64 lie), (⟨w.heap.size, 1, none⟩, .int .i64 pos), (⟨w.heap.size, 2, none⟩, .bool jump), (⟨w.heap.size + 1, 0, none⟩, .int .i64 0), (⟨w.heap.size + 1, 1, none⟩, .int .i64 0), (⟨w.heap.size + 1, 2, none⟩, .bool false)] := by simp only [Quiet.has_cons, Quiet.has_nil, and_true]; refine ⟨?_, ?_, ?_, ?_, ?_, ?_⟩ <;> go_simp
    have t0 : Quiet.Thaw ((w.alloc (.cells #[.int .i64 lie, .int .i64 pos, .bool jump] 29)).alloc (.cells #[.int .i64 0, .int .i64 0, .bool false] 29)) [⟨w.heap.size, 0, none⟩, ⟨w.heap.size, 1, none⟩, ⟨w.heap.size, 2, none⟩, ⟨w.heap.size + 1, 0, none⟩, ⟨w.heap.size + 1, 1, none⟩, ⟨w.heap.size + 1, 2, none⟩] := by simp only [Quiet.thaw_cons, Quiet.thaw_nil, and_true]; refine ⟨?_, ?_, ?_, ?_, ?_, ?_⟩ <;> refine ⟨by simp <;> omega, by go_simp⟩
    go_wp2_with fail
    have hB1 := Aside0.mk (show Below w.heap.size w ((w.alloc (.cells #[.int .i64 lie, .int .i64 pos, .bool jump] 29)).alloc (.cells #[.int .i64 0, .int .i64 0, .bool false] 29)) from by repeat (with_reducible first | exact Below.refl _ _ | apply below_alloc | apply below_drew1 | apply pw_below_drewN))
    refine Quiet.start (fun w' => Quiet.Has w' [(⟨w.heap.size, 0, none⟩, .int .i64 lie), (⟨w.heap.size, 1, none⟩, .int .i64 pos), (⟨w.heap.size, 2, none⟩, .bool jump), (⟨w.heap.size + 1, 0, none⟩, .int .i64 0), (⟨w.heap.size + 1, 1, none⟩, .int .i64 0), (⟨w.heap.size + 1, 2, none⟩, .bool false)]) (by kernel_rfl) (by kernel_rfl) (fun w' h => k0.bel h) (fun W1 hW1 hcell => ?_)
    repeat (first
      | go_big_quiet_skip
      | (go_big_quiet_want; go_big_quiet_op; go_big_quiet_on)
      | (refine Quiet.val _ _ (by rfl) (by (intro w' hC; have u := hcell w' hC; simp only [Quiet.has_cons, Quiet.has_nil, and_true] at u; obtain ⟨u0, u1, u2, u3, u4, u5⟩ := u; go_simp; with_reducible rfl)) (by (simp only [Act.put, List.setIfInBounds_toArray, List.set_cons_zero, List.set_cons_succ]; rfl)) ?_)
      | (refine Quiet.call (args := #[.int .i64 a]) _ _ (by rfl) (by rfl) Try.func39 (by kernel_rfl) rfl (by simp only [List.map_toArray, List.map_cons, List.map_nil]; rfl) (fun w' hC => (HG.out w').mono fun e w'' h => ⟨h.1, h.2 ▸ Below.refl _ _⟩) (by (simp only [Act.put, List.setIfInBounds_toArray, List.set_cons_zero, List.set_cons_succ]; rfl)) ?_)
      | (refine Quiet.call (args := #[.int .i64 lie]) _ _ (by rfl) (by rfl) Try.func39 (by kernel_rfl) rfl (by simp only [List.map_toArray, List.map_cons, List.map_nil]; rfl) (fun w' hC => (HL.out w').mono fun e w'' h => ⟨h.1, h.2 ▸ Below.refl _ _⟩) (by (simp only [Act.put, List.setIfInBounds_toArray, List.set_cons_zero, List.set_cons_succ]; rfl)) ?_))
    refine Quiet.done ?_
    intro w1 hbel
    have B1 := Aside0.mk (Quiet.Bel.out hB1.out hW1 hbel)
    have k1 := (hW1.has k0).bel hbel
    have t1 := (hW1.thaw t0).bel hbel
    clear hbel hcell hW1
    have u := k1
    simp only [Quiet.has_cons, Quiet.has_nil, and_true] at u
    obtain ⟨u0, u1, u2, u3, u4, u5⟩ := u
    have v := t1
    simp only [Quiet.thaw_cons, Quiet.thaw_nil, and_true] at v
    obtain ⟨⟨v0, x0⟩, ⟨v1, x1⟩, ⟨v2, x2⟩, ⟨v3, x3⟩, ⟨v4, x4⟩, ⟨v5, x5⟩⟩ := v
    have e1 := hE.out
    go_wp2
    exact bodyPost_ret (v := .agg #[.int .i64 (a % 4), .int .i64 (pos), .bool jump]) (by simp [results, Try.results33, go_sem, u0, u1, u2, u3, u4, u5]) rfl ⟨rfl, by repeat (first | (with_reducible exact B1.out) | (with_reducible refine Quiet.Bel.set ?_ (by omega)))⟩
set_option maxHeartbeats 4000000 in
set_option maxRecDepth 100000 in
theorem step_1a (p q : Int) (hpq : (p = 0 ∧ q = 3) ∨ (p = 1 ∧ q = 0) ∨ (p = 2 ∧ q = 1) ∨ (p = 3 ∧ q = 2)) (lie pos : Int) (jump : Bool) (a : Int) (w : World)
    (hG : ∀ w, Calls Try.prog 39 #[.int .i64 a] w fun e w' => e = .returned (.int .i64 p) ∧ w' = w)
    (hL : ∀ w, Calls Try.prog 39 #[.int .i64 lie] w fun e w' => e = .returned (.int .i64 q) ∧ w' = w) (hp : decide (pos < 9223372036854775807) = true) :
    Calls Try.prog 33 #[.agg #[.int .i64 lie, .int .i64 pos, .bool jump], .int .i64 a] w fun e w' => e = .returned (.agg #[.int .i64 (a % 4), .int .i64 (wrap64 (pos + 1)), .bool jump]) ∧ Below w.heap.size w w' := by
  have HG := Aside0.mk hG
  have HL := Aside0.mk hL
  have e1 := Arith.and3 a
  have hE := Aside0.mk e1
  clear hG hL e1
  rcases hpq with ⟨rfl, rfl⟩ | ⟨rfl, rfl⟩ | ⟨rfl, rfl⟩ | ⟨rfl, rfl⟩
  all_goals
    go_enter Try.func33, Try.ntmps33
    have k0 : Quiet.Has ((w.alloc (.cells #[.int .i64 lie, .int .i64 pos, .bool jump] 29)).alloc (.cells #[.int .i64 0, .int .i64 0, .bool false] 29)) [(⟨w.heap.size, 0, none⟩, .int .i64 lie), (⟨w.heap.size, 1, none⟩, .int .i64 pos), (⟨w.heap.size, 2, none⟩, .bool jump), (⟨w.heap.size + 1, 0, none⟩, .int .i64 0), (⟨w.heap.size + 1, 1, none⟩, .int .i64 0), (⟨w.heap.size + 1, 2, none⟩, .bool false)] := by simp only [Quiet.has_cons, Quiet.has_nil, and_true]; refine ⟨?_, ?_, ?_, ?_, ?_, ?_⟩ <;> go_simp
    have t0 : Quiet.Thaw ((w.alloc (.cells #[.int .i64 lie, .int .i64 pos, .bool jump] 29)).alloc (.cells #[.int .i64 0, .int .i64 0, .bool false] 29)) [⟨w.heap.size, 0, none⟩, ⟨w.heap.size, 1, none⟩, ⟨w.heap.size, 2, none⟩, ⟨w.heap.size + 1, 0, none⟩, ⟨w.heap.size + 1, 1, none⟩, ⟨w.heap.size + 1, 2, none⟩] := by simp only [Quiet.thaw_cons, Quiet.thaw_nil, and_true]; refine ⟨?_, ?_, ?_, ?_, ?_, ?_⟩ <;> refine ⟨by simp <;> omega, by go_simp⟩
    go_wp2_with fail
    have hB1 := Aside0.mk (show Below w.heap.size w ((w.alloc (.cells #[.int .i64 lie, .int .i64 pos, .bool jump] 29)).alloc (.cells #[.int .i64 0, .int .i64 0, .bool false] 29)) from by repeat (with_reducible first | exact Below.refl _ _ | apply below_alloc | apply below_drew1 | apply pw_below_drewN))
    refine Quiet.start (fun w' => Quiet.Has w' [(⟨w.heap.size, 0, none⟩, .int .i64 lie), (⟨w.heap.size, 1, none⟩, .int .i64 pos), (⟨w.heap.size, 2, none⟩, .bool jump), (⟨w.heap.size + 1, 0, none⟩, .int .i64 0), (⟨w.heap.size + 1, 1, none⟩, .int .i64 0), (⟨w.heap.size + 1, 2, none⟩, .bool false)]) (by kernel_rfl) (by kernel_rfl) (fun w' h => k0.bel h) (fun W1 hW1 hcell => ?_)
    repeat (first
      | go_big_quiet_skip
      | (go_big_quiet_want; go_big_quiet_op; go_big_quiet_on)
      | (refine Quiet.val _ _ (by rfl) (by (intro w' hC; have u := hcell w' hC; simp only [Quiet.has_cons, Quiet.has_nil, and_true] at u; obtain ⟨u0, u1, u2, u3, u4, u5⟩ := u; go_simp; with_reducible rfl)) (by (simp only [Act.put, List.setIfInBounds_toArray, List.set_cons_zero, List.set_cons_succ]; rfl)) ?_)
      | (refine Quiet.call (args := #[.int .i64 a]) _ _ (by rfl) (by rfl) Try.func39 (by kernel_rfl) rfl (by simp only [List.map_toArray, List.map_cons, List.map_nil]; rfl) (fun w' hC => (HG.out w').mono fun e w'' h => ⟨h.1, h.2 ▸ Below.refl _ _⟩) (by (simp only [Act.put, List.setIfInBounds_toArray, List.set_cons_zero, List.set_cons_succ]; rfl)) ?_)
      | (refine Quiet.call (args := #[.int .i64 lie]) _ _ (by rfl) (by rfl) Try.func39 (by kernel_rfl) rfl (by simp only [List.map_toArray, List.map_cons, List.map_nil]; rfl) (fun w' hC => (HL.out w').mono fun e w'' h => ⟨h.1, h.2 ▸ Below.refl _ _⟩) (by (simp only [Act.put, List.setIfInBounds_toArray, List.set_cons_zero, List.set_cons_succ]; rfl)) ?_))
    refine Quiet.done ?_
    intro w1 hbel
    have B1 := Aside0.mk (Quiet.Bel.out hB1.out hW1 hbel)
    have k1 := (hW1.has k0).bel hbel
    have t1 := (hW1.thaw t0).bel hbel
    clear hbel hcell hW1
    have u := k1
    simp only [Quiet.has_cons, Quiet.has_nil, and_true] at u
    obtain ⟨u0, u1, u2, u3, u4, u5⟩ := u
    have v := t1
    simp only [Quiet.thaw_cons, Quiet.thaw_nil, and_true] at v
    obtain ⟨⟨v0, x0⟩, ⟨v1, x1⟩, ⟨v2, x2⟩, ⟨v3, x3⟩, ⟨v4, x4⟩, ⟨v5, x5⟩⟩ := v
    have e1 := hE.out
    go_wp2
    exact bodyPost_ret (v := .agg #[.int .i64 (a % 4), .int .i64 (wrap64 (pos + 1)), .bool jump]) (by simp [results, Try.results33, go_sem, u0, u1, u2, u3, u4, u5]) rfl ⟨rfl, by repeat (first | (with_reducible exact B1.out) | (with_reducible refine Quiet.Bel.set ?_ (by omega)))⟩
set_option maxHeartbeats 4000000 in
set_option maxRecDepth 100000 in
theorem step_1b (p q : Int) (hpq : (p = 0 ∧ q = 3) ∨ (p = 1 ∧ q = 0) ∨ (p = 2 ∧ q = 1) ∨ (p = 3 ∧ q = 2)) (lie pos : Int) (jump : Bool) (a : Int) (w : World)
    (hG : ∀ w, Calls Try.prog 39 #[.int .i64 a] w fun e w' => e = .returned (.int .i64 p) ∧ w' = w)
    (hL : ∀ w, Calls Try.prog 39 #[.int .i64 lie] w fun e w' => e = .returned (.int .i64 q) ∧ w' = w) (hp : decide (pos < 9223372036854775807) = false) :
    Calls Try.prog 33 #[.agg #[.int .i64 lie, .int .i64 pos, .bool jump], .int .i64 a] w fun e w' => e = .returned (.agg #[.int .i64 (a % 4), .int .i64 (pos), .bool jump]) ∧ Below w.heap.size w w' := by
  have HG := Aside0.mk hG
  have HL := Aside0.mk hL
  have e1 := Arith.and3 a
  have hE := Aside0.mk e1
  clear hG hL e1
  rcases hpq with ⟨rfl, rfl⟩ | ⟨rfl, rfl⟩ | ⟨rfl, rfl⟩ | ⟨rfl, rfl⟩
  all_goals
    go_enter Try.func33, Try.ntmps33
    have k0 : Quiet.Has ((w.alloc (.cells #[.int .i64 lie, .int .i64 pos, .bool jump] 29)).alloc (.cells #[.int .i64 0, .int .i64 0, .bool false] 29)) [(⟨w.heap.size, 0, none⟩, .int .i64 lie), (⟨w.heap.size, 1, none⟩, .int .i64 pos), (⟨w.heap.size, 2, none⟩, .bool jump), (⟨w.heap.size + 1, 0, none⟩, .int .i64 0), (⟨w.heap.size + 1, 1, none⟩, .int .i64 0), (⟨w.heap.size + 1, 2, none⟩, .bool false)] := by simp only [Quiet.has_cons, Quiet.has_nil, and_true]; refine ⟨?_, ?_, ?_, ?_, ?_, ?_⟩ <;> go_simp
    have t0 : Quiet.Thaw ((w.alloc (.cells #[.int .i64 lie, .int .i64 pos, .bool jump] 29)).alloc (.cells #[.int .i64 0, .int .i64 0, .bool false] 29)) [⟨w.heap.size, 0, none⟩, ⟨w.heap.size, 1, none⟩, ⟨w.heap.size, 2, none⟩, ⟨w.heap.size + 1, 0, none⟩, ⟨w.heap.size + 1, 1, none⟩, ⟨w.heap.size + 1, 2, none⟩] := by simp only [Quiet.thaw_cons, Quiet.thaw_nil, and_true]; refine ⟨?_, ?_, ?_, ?_, ?_, ?_⟩ <;> refine ⟨by simp <;> omega, by go_simp⟩
    go_wp2_with fail
    have hB1 := Aside0.mk (show Below w.heap.size w ((w.alloc (.cells #[.int .i64 lie, .int .i64 pos, .bool jump] 29)).alloc (.cells #[.int .i64 0, .int .i64 0, .bool false] 29)) from by repeat (with_reducible first | exact Below.refl _ _ | apply below_alloc | apply below_drew1 | apply pw_below_drewN))
    refine Quiet.start (fun w' => Quiet.Has w' [(⟨w.heap.size, 0, none⟩, .int .i64 lie), (⟨w.heap.size, 1, none⟩, .int .i64 pos), (⟨w.heap.size, 2, none⟩, .bool jump), (⟨w.heap.size + 1, 0, none⟩, .int .i64 0), (⟨w.heap.size + 1, 1, none⟩, .int .i64 0), (⟨w.heap.size + 1, 2, none⟩, .bool false)]) (by kernel_rfl) (by kernel_rfl) (fun w' h => k0.bel h) (fun W1 hW1 hcell => ?_)
    repeat (first
      | go_big_quiet_skip
      | (go_big_quiet_want; go_big_quiet_op; go_big_quiet_on)
      | (refine Quiet.val _ _ (by rfl) (by (intro w' hC; have u := hcell w' hC; simp only [Quiet.has_cons, Quiet.has_nil, and_true] at u; obtain ⟨u0, u1, u2, u3, u4, u5⟩ := u; go_simp; with_reducible rfl)) (by (simp only [Act.put, List.setIfInBounds_toArray, List.set_cons_zero, List.set_cons_succ]; rfl)) ?_)
      | (refine Quiet.call (args := #[.int .i64 a]) _ _ (by rfl) (by rfl) Try.func39 (by kernel_rfl) rfl (by simp only [List.map_toArray, List.map_cons, List.map_nil]; rfl) (fun w' hC => (HG.out w').mono fun e w'' h => ⟨h.1, h.2 ▸ Below.refl _ _⟩) (by (simp only [Act.put, List.setIfInBounds_toArray, List.set_cons_zero, List.set_cons_succ]; rfl)) ?_)
      | (refine Quiet.call (args := #[.int .i64 lie]) _ _ (by rfl) (by rfl) Try.func39 (by kernel_rfl) rfl (by simp only [List.map_toArray, List.map_cons, List.map_nil]; rfl) (fun w' hC => (HL.out w').mono fun e w'' h => ⟨h.1, h.2 ▸ Below.refl _ _⟩) (by (simp only [Act.put, List.setIfInBounds_toArray, List.set_cons_zero, List.set_cons_succ]; rfl)) ?_))
    refine Quiet.done ?_
    intro w1 hbel
    have B1 := Aside0.mk (Quiet.Bel.out hB1.out hW1 hbel)
    have k1 := (hW1.has k0).bel hbel
    have t1 := (hW1.thaw t0).bel hbel
    clear hbel hcell hW1
    have u := k1
    simp only [Quiet.has_cons, Quiet.has_nil, and_true] at u
    obtain ⟨u0, u1, u2, u3, u4, u5⟩ := u
    have v := t1
    simp only [Quiet.thaw_cons, Quiet.thaw_nil, and_true] at v
    obtain ⟨⟨v0, x0⟩, ⟨v1, x1⟩, ⟨v2, x2⟩, ⟨v3, x3⟩, ⟨v4, x4⟩, ⟨v5, x5⟩⟩ := v
    have e1 := hE.out
    go_wp2
    exact bodyPost_ret (v := .agg #[.int .i64 (a % 4), .int .i64 (pos), .bool jump]) (by simp [results, Try.results33, go_sem, u0, u1, u2, u3, u4, u5]) rfl ⟨rfl, by repeat (first | (with_reducible exact B1.out) | (with_reducible refine Quiet.Bel.set ?_ (by omega)))⟩
set_option maxHeartbeats 4000000 in
set_option maxRecDepth 100000 in
theorem step_2 (p q : Int) (hpq : (p = 0 ∧ q = 2) ∨ (p = 1 ∧ q = 3) ∨ (p = 2 ∧ q = 0) ∨ (p = 3 ∧ q = 1)) (lie pos : Int) (jump : Bool) (a : Int) (w : World)
    (hG : ∀ w, Calls Try.prog 39 #[.int .i64 a] w fun e w' => e = .returned (.int .i64 p) ∧ w' = w)
    (hL : ∀ w, Calls Try.prog 39 #[.int .i64 lie] w fun e w' => e = .returned (.int .i64 q) ∧ w' = w) :
    Calls Try.prog 33 #[.agg #[.int .i64 lie, .int .i64 pos, .bool jump], .int .i64 a] w fun e w' => e = .returned (.agg #[.int .i64 (a % 4), .int .i64 (pos), .bool true]) ∧ Below w.heap.size w w' := by
  have HG := Aside0.mk hG
  have HL := Aside0.mk hL
  have e1 := Arith.and3 a
  have hE := Aside0.mk e1
  clear hG hL e1
  rcases hpq with ⟨rfl, rfl⟩ | ⟨rfl, rfl⟩ | ⟨rfl, rfl⟩ | ⟨rfl, rfl⟩
  all_goals
    go_enter Try.func33, Try.ntmps33
    have k0 : Quiet.Has ((w.alloc (.cells #[.int .i64 lie, .int .i64 pos, .bool jump] 29)).alloc (.cells #[.int .i64 0, .int .i64 0, .bool false] 29)) [(⟨w.heap.size, 0, none⟩, .int .i64 lie), (⟨w.heap.size, 1, none⟩, .int .i64 pos), (⟨w.heap.size, 2, none⟩, .bool jump), (⟨w.heap.size + 1, 0, none⟩, .int .i64 0), (⟨w.heap.size + 1, 1, none⟩, .int .i64 0), (⟨w.heap.size + 1, 2, none⟩, .bool false)] := by simp only [Quiet.has_cons, Quiet.has_nil, and_true]; refine ⟨?_, ?_, ?_, ?_, ?_, ?_⟩ <;> go_simp
    have t0 : Quiet.Thaw ((w.alloc (.cells #[.int .i64 lie, .int .i64 pos, .bool jump] 29)).alloc (.cells #[.int .i64 0, .int .i64 0, .bool false] 29)) [⟨w.heap.size, 0, none⟩, ⟨w.heap.size, 1, none⟩, ⟨w.heap.size, 2, none⟩, ⟨w.heap.size + 1, 0, none⟩, ⟨w.heap.size + 1, 1, none⟩, ⟨w.heap.size + 1, 2, none⟩] := by simp only [Quiet.thaw_cons, Quiet.thaw_nil, and_true]; refine ⟨?_, ?_, ?_, ?_, ?_, ?_⟩ <;> refine ⟨by simp <;> omega, by go_simp⟩
    go_wp2_with fail
    have hB1 := Aside0.mk (show Below w.heap.size w ((w.alloc (.cells #[.int .i64 lie, .int .i64 pos, .bool jump] 29)).alloc (.cells #[.int .i64 0, .int .i64 0, .bool false] 29)) from by repeat (with_reducible first | exact Below.refl _ _ | apply below_alloc | apply below_drew1 | apply pw_below_drewN))
    refine Quiet.start (fun w' => Quiet.Has w' [(⟨w.heap.size, 0, none⟩, .int .i64 lie), (⟨w.heap.size, 1, none⟩, .int .i64 pos), (⟨w.heap.size, 2, none⟩, .bool jump), (⟨w.heap.size + 1, 0, none⟩, .int .i64 0), (⟨w.heap.size + 1, 1, none⟩, .int .i64 0), (⟨w.heap.size + 1, 2, none⟩, .bool false)]) (by kernel_rfl) (by kernel_rfl) (fun w' h => k0.bel h) (fun W1 hW1 hcell => ?_)
    repeat (first
      | go_big_quiet_skip
      | (go_big_quiet_want; go_big_quiet_op; go_big_quiet_on)
      | (refine Quiet.val _ _ (by rfl) (by (intro w' hC; have u := hcell w' hC; simp only [Quiet.has_cons, Quiet.has_nil, and_true] at u; obtain ⟨u0, u1, u2, u3, u4, u5⟩ := u; go_simp; with_reducible rfl)) (by (simp only [Act.put, List.setIfInBounds_toArray, List.set_cons_zero, List.set_cons_succ]; rfl)) ?_)
      | (refine Quiet.call (args := #[.int .i64 a]) _ _ (by rfl) (by rfl) Try.func39 (by kernel_rfl) rfl (by simp only [List.map_toArray, List.map_cons, List.map_nil]; rfl) (fun w' hC => (HG.out w').mono fun e w'' h => ⟨h.1, h.2 ▸ Below.refl _ _⟩) (by (simp only [Act.put, List.setIfInBounds_toArray, List.set_cons_zero, List.set_cons_succ]; rfl)) ?_)
      | (refine Quiet.call (args := #[.int .i64 lie]) _ _ (by rfl) (by rfl) Try.func39 (by kernel_rfl) rfl (by simp only [List.map_toArray, List.map_cons, List.map_nil]; rfl) (fun w' hC => (HL.out w').mono fun e w'' h => ⟨h.1, h.2 ▸ Below.refl _ _⟩) (by (simp only [Act.put, List.setIfInBounds_toArray, List.set_cons_zero, List.set_cons_succ]; rfl)) ?_))
    refine Quiet.done ?_
    intro w1 hbel
    have B1 := Aside0.mk (Quiet.Bel.out hB1.out hW1 hbel)
    have k1 := (hW1.has k0).bel hbel
    have t1 := (hW1.thaw t0).bel hbel
    clear hbel hcell hW1
    have u := k1
    simp only [Quiet.has_cons, Quiet.has_nil, and_true] at u
    obtain ⟨u0, u1, u2, u3, u4, u5⟩ := u
    have v := t1
    simp only [Quiet.thaw_cons, Quiet.thaw_nil, and_true] at v
    obtain ⟨⟨v0, x0⟩, ⟨v1, x1⟩, ⟨v2, x2⟩, ⟨v3, x3⟩, ⟨v4, x4⟩, ⟨v5, x5⟩⟩ := v
    have e1 := hE.out
    go_wp2
    exact bodyPost_ret (v := .agg #[.int .i64 (a % 4), .int .i64 (pos), .bool true]) (by simp [results, Try.results33, go_sem, u0, u1, u2, u3, u4, u5]) rfl ⟨rfl, by repeat (first | (with_reducible exact B1.out) | (with_reducible refine Quiet.Bel.set ?_ (by omega)))⟩
set_option maxHeartbeats 4000000 in
set_option maxRecDepth 100000 in
theorem step_3a (p q : Int) (hpq : (p = 0 ∧ q = 1) ∨ (p = 1 ∧ q = 2) ∨ (p = 2 ∧ q = 3) ∨ (p = 3 ∧ q = 0)) (lie pos : Int) (jump : Bool) (a : Int) (w : World)
    (hG : ∀ w, Calls Try.prog 39 #[.int .i64 a] w fun e w' => e = .returned (.int .i64 p) ∧ w' = w)
    (hL : ∀ w, Calls Try.prog 39 #[.int .i64 lie] w fun e w' => e = .returned (.int .i64 q) ∧ w' = w) (hp : decide (-9223372036854775808 < pos) = true) :
    Calls Try.prog 33 #[.agg #[.int .i64 lie, .int .i64 pos, .bool jump], .int .i64 a] w fun e w' => e = .returned (.agg #[.int .i64 (a % 4), .int .i64 (wrap64 (pos - 1)), .bool jump]) ∧ Below w.heap.size w w' := by
  have HG := Aside0.mk hG
  have HL := Aside0.mk hL
  have e1 := Arith.and3 a
  have hE := Aside0.mk e1
  clear hG hL e1
  rcases hpq with ⟨rfl, rfl⟩ | ⟨rfl, rfl⟩ | ⟨rfl, rfl⟩ | ⟨rfl, rfl⟩
  all_goals
    go_enter Try.func33, Try.ntmps33
    have k0 : Quiet.Has ((w.alloc (.cells #[.int .i64 lie, .int .i64 pos, .bool jump] 29)).alloc (.cells #[.int .i64 0, .int .i64 0, .bool false] 29)) [(⟨w.heap.size, 0, none⟩, .int .i64 lie), (⟨w.heap.size, 1, none⟩, .int .i64 pos), (⟨w.heap.size, 2, none⟩, .bool jump), (⟨w.heap.size + 1, 0, none⟩, .int .i64 0), (⟨w.heap.size + 1, 1, none⟩, .int .i64 0), (⟨w.heap.size + 1, 2, none⟩, .bool false)] := by simp only [Quiet.has_cons, Quiet.has_nil, and_true]; refine ⟨?_, ?_, ?_, ?_, ?_, ?_⟩ <;> go_simp
    have t0 : Quiet.Thaw ((w.alloc (.cells #[.int .i64 lie, .int .i64 pos, .bool jump] 29)).alloc (.cells #[.int .i64 0, .int .i64 0, .bool false] 29)) [⟨w.heap.size, 0, none⟩, ⟨w.heap.size, 1, none⟩, ⟨w.heap.size, 2, none⟩, ⟨w.heap.size + 1, 0, none⟩, ⟨w.heap.size + 1, 1, none⟩, ⟨w.heap.size + 1, 2, none⟩] := by simp only [Quiet.thaw_cons, Quiet.thaw_nil, and_true]; refine ⟨?_, ?_, ?_, ?_, ?_, ?_⟩ <;> refine ⟨by simp <;> omega, by go_simp⟩
    go_wp2_with fail
    have hB1 := Aside0.mk (show Below w.heap.size w ((w.alloc (.cells #[.int .i64 lie, .int .i64 pos, .bool jump] 29)).alloc (.cells #[.int .i64 0, .int .i64 0, .bool false] 29)) from by repeat (with_reducible first | exact Below.refl _ _ | apply below_alloc | apply below_drew1 | apply pw_below_drewN))
    refine Quiet.start (fun w' => Quiet.Has w' [(⟨w.heap.size, 0, none⟩, .int .i64 lie), (⟨w.heap.size, 1, none⟩, .int .i64 pos), (⟨w.heap.size, 2, none⟩, .bool jump), (⟨w.heap.size + 1, 0, none⟩, .int .i64 0), (⟨w.heap.size + 1, 1, none⟩, .int .i64 0), (⟨w.heap.size + 1, 2, none⟩, .bool false)]) (by kernel_rfl) (by kernel_rfl) (fun w' h => k0.bel h) (fun W1 hW1 hcell => ?_)
    repeat (first
      | go_big_quiet_skip
      | (go_big_quiet_want; go_big_quiet_op; go_big_quiet_on)
      | (refine Quiet.val _ _ (by rfl) (by (intro w' hC; have u := hcell w' hC; simp only [Quiet.has_cons, Quiet.has_nil, and_true] at u; obtain ⟨u0, u1, u2, u3, u4, u5⟩ := u; go_simp; with_reducible rfl)) (by (simp only [Act.put, List.setIfInBounds_toArray, List.set_cons_zero, List.set_cons_succ]; rfl)) ?_)
      | (refine Quiet.call (args := #[.int .i64 a]) _ _ (by rfl) (by rfl) Try.func39 (by kernel_rfl) rfl (by simp only [List.map_toArray, List.map_cons, List.map_nil]; rfl) (fun w' hC => (HG.out w').mono fun e w'' h => ⟨h.1, h.2 ▸ Below.refl _ _⟩) (by (simp only [Act.put, List.setIfInBounds_toArray, List.set_cons_zero, List.set_cons_succ]; rfl)) ?_)
      | (refine Quiet.call (args := #[.int .i64 lie]) _ _ (by rfl) (by rfl) Try.func39 (by kernel_rfl) rfl (by simp only [List.map_toArray, List.map_cons, List.map_nil]; rfl) (fun w' hC => (HL.out w').mono fun e w'' h => ⟨h.1, h.2 ▸ Below.refl _ _⟩) (by (simp only [Act.put, List.setIfInBounds_toArray, List.set_cons_zero, List.set_cons_succ]; rfl)) ?_))
    refine Quiet.done ?_
    intro w1 hbel
    have B1 := Aside0.mk (Quiet.Bel.out hB1.out hW1 hbel)
    have k1 := (hW1.has k0).bel hbel
    have t1 := (hW1.thaw t0).bel hbel
    clear hbel hcell hW1
    have u := k1
    simp only [Quiet.has_cons, Quiet.has_nil, and_true] at u
    obtain ⟨u0, u1, u2, u3, u4, u5⟩ := u
    have v := t1
    simp only [Quiet.thaw_cons, Quiet.thaw_nil, and_true] at v
    obtain ⟨⟨v0, x0⟩, ⟨v1, x1⟩, ⟨v2, x2⟩, ⟨v3, x3⟩, ⟨v4, x4⟩, ⟨v5, x5⟩⟩ := v
    have e1 := hE.out
    go_wp2
    exact bodyPost_ret (v := .agg #[.int .i64 (a % 4), .int .i64 (wrap64 (pos - 1)), .bool jump]) (by simp [results, Try.results33, go_sem, u0, u1, u2, u3, u4, u5]) rfl ⟨rfl, by repeat (first | (with_reducible exact B1.out) | (with_reducible refine Quiet.Bel.set ?_ (by omega)))⟩
set_option maxHeartbeats 4000000 in
set_option maxRecDepth 100000 in
theorem step_3b (p q : Int) (hpq : (p = 0 ∧ q = 1) ∨ (p = 1 ∧ q = 2) ∨ (p = 2 ∧ q = 3) ∨ (p = 3 ∧ q = 0)) (lie pos : Int) (jump : Bool) (a : Int) (w : World)
    (hG : ∀ w, Calls Try.prog 39 #[.int .i64 a] w fun e w' => e = .returned (.int .i64 p) ∧ w' = w)
    (hL : ∀ w, Calls Try.prog 39 #[.int .i64 lie] w fun e w' => e = .returned (.int .i64 q) ∧ w' = w) (hp : decide (-9223372036854775808 < pos) = false) :
    Calls Try.prog 33 #[.agg #[.int .i64 lie, .int .i64 pos, .bool jump], .int .i64 a] w fun e w' => e = .returned (.agg #[.int .i64 (a % 4), .int .i64 (pos), .bool jump]) ∧ Below w.heap.size w w' := by
  have HG := Aside0.mk hG
  have HL := Aside0.mk hL
  have e1 := Arith.and3 a
  have hE := Aside0.mk e1
  clear hG hL e1
  rcases hpq with ⟨rfl, rfl⟩ | ⟨rfl, rfl⟩ | ⟨rfl, rfl⟩ | ⟨rfl, rfl⟩
  all_goals
    go_enter Try.func33, Try.ntmps33
    have k0 : Quiet.Has ((w.alloc (.cells #[.int .i64 lie, .int .i64 pos, .bool jump] 29)).alloc (.cells #[.int .i64 0, .int .i64 0, .bool false] 29)) [(⟨w.heap.size, 0, none⟩, .int .i64 lie), (⟨w.heap.size, 1, none⟩, .int .i64 pos), (⟨w.heap.size, 2, none⟩, .bool jump), (⟨w.heap.size + 1, 0, none⟩, .int .i64 0), (⟨w.heap.size + 1, 1, none⟩, .int .i64 0), (⟨w.heap.size + 1, 2, none⟩, .bool false)] := by simp only [Quiet.has_cons, Quiet.has_nil, and_true]; refine ⟨?_, ?_, ?_, ?_, ?_, ?_⟩ <;> go_simp
    have t0 : Quiet.Thaw ((w.alloc (.cells #[.int .i64 lie, .int .i64 pos, .bool jump] 29)).alloc (.cells #[.int .i64 0, .int .i64 0, .bool false] 29)) [⟨w.heap.size, 0, none⟩, ⟨w.heap.size, 1, none⟩, ⟨w.heap.size, 2, none⟩, ⟨w.heap.size + 1, 0, none⟩, ⟨w.heap.size + 1, 1, none⟩, ⟨w.heap.size + 1, 2, none⟩] := by simp only [Quiet.thaw_cons, Quiet.thaw_nil, and_true]; refine ⟨?_, ?_, ?_, ?_, ?_, ?_⟩ <;> refine ⟨by simp <;> omega, by go_simp⟩
    go_wp2_with fail
    have hB1 := Aside0.mk (show Below w.heap.size w ((w.alloc (.cells #[.int .i64 lie, .int .i64 pos, .bool jump] 29)).alloc (.cells #[.int .i64 0, .int .i64 0, .bool false] 29)) from by repeat (with_reducible first | exact Below.refl _ _ | apply below_alloc | apply below_drew1 | apply pw_below_drewN))
    refine Quiet.start (fun w' => Quiet.Has w' [(⟨w.heap.size, 0, none⟩, .int .i64 lie), (⟨w.heap.size, 1, none⟩, .int .i64 pos), (⟨w.heap.size, 2, none⟩, .bool jump), (⟨w.heap.size + 1, 0, none⟩, .int .i64 0), (⟨w.heap.size + 1, 1, none⟩, .int .i64 0), (⟨w.heap.size + 1, 2, none⟩, .bool false)]) (by kernel_rfl) (by kernel_rfl) (fun w' h => k0.bel h) (fun W1 hW1 hcell => ?_)
    repeat (first
      | go_big_quiet_skip
      | (go_big_quiet_want; go_big_quiet_op; go_big_quiet_on)
      | (refine Quiet.val _ _ (by rfl) (by (intro w' hC; have u := hcell w' hC; simp only [Quiet.has_cons, Quiet.has_nil, and_true] at u; obtain ⟨u0, u1, u2, u3, u4, u5⟩ := u; go_simp; with_reducible rfl)) (by (simp only [Act.put, List.setIfInBounds_toArray, List.set_cons_zero, List.set_cons_succ]; rfl)) ?_)
      | (refine Quiet.call (args := #[.int .i64 a]) _ _ (by rfl) (by rfl) Try.func39 (by kernel_rfl) rfl (by simp only [List.map_toArray, List.map_cons, List.map_nil]; rfl) (fun w' hC => (HG.out w').mono fun e w'' h => ⟨h.1, h.2 ▸ Below.refl _ _⟩) (by (simp only [Act.put, List.setIfInBounds_toArray, List.set_cons_zero, List.set_cons_succ]; rfl)) ?_)
      | (refine Quiet.call (args := #[.int .i64 lie]) _ _ (by rfl) (by rfl) Try.func39 (by kernel_rfl) rfl (by simp only [List.map_toArray, List.map_cons, List.map_nil]; rfl) (fun w' hC => (HL.out w').mono fun e w'' h => ⟨h.1, h.2 ▸ Below.refl _ _⟩) (by (simp only [Act.put, List.setIfInBounds_toArray, List.set_cons_zero, List.set_cons_succ]; rfl)) ?_))
    refine Quiet.done ?_
    intro w1 hbel
    have B1 := Aside0.mk (Quiet.Bel.out hB1.out hW1 hbel)
    have k1 := (hW1.has k0).bel hbel
    have t1 := (hW1.thaw t0).bel hbel
    clear hbel hcell hW1
    have u := k1
    simp only [Quiet.has_cons, Quiet.has_nil, and_true] at u
    obtain ⟨u0, u1, u2, u3, u4, u5⟩ := u
    have v := t1
    simp only [Quiet.thaw_cons, Quiet.thaw_nil, and_true] at v
    obtain ⟨⟨v0, x0⟩, ⟨v1, x1⟩, ⟨v2, x2⟩, ⟨v3, x3⟩, ⟨v4, x4⟩, ⟨v5, x5⟩⟩ := v
    have e1 := hE.out
    go_wp2
    exact bodyPost_ret (v := .agg #[.int .i64 (a % 4), .int .i64 (pos), .bool jump]) (by simp [results, Try.results33, go_sem, u0, u1, u2, u3, u4, u5]) rfl ⟨rfl, by repeat (first | (with_reducible exact B1.out) | (with_reducible refine Quiet.Bel.set ?_ (by omega)))⟩

theorem pair_Step.calls (lie : Int) (pos : Int) (jump : Bool) (a : Int) (r1 : Int) (r2 : Int) (r3 : Bool) (w : World) (h : pair_Step.f lie pos jump a = some (r1, r2, r3)) :
    Calls Try.prog 33 #[.agg #[.int .i64 lie, .int .i64 pos, .bool jump], .int .i64 a] w fun e w' => e = .returned (.agg #[.int .i64 r1, .int .i64 r2, .bool r3]) ∧ Below w.heap.size w w' := by
  simp only [pair_Step.f, Option.some.injEq, Prod.mk.injEq] at h
  obtain ⟨rfl, h2, h3⟩ := h
  obtain ⟨p, hp, hpc, hG⟩ := gray.ends a
  obtain ⟨q, hq, hqc, hL⟩ := gray.ends lie
  rw [hp, hq] at h2 h3
  have hw : (p - q) % 4 = 0 ∨ (p - q) % 4 = 1 ∨ (p - q) % 4 = 2 ∨ (p - q) % 4 = 3 := by omega
  rcases hw with hw | hw | hw | hw
  · simp only [posN, hw, Int.reduceEq, if_true, if_false, decide_false, Bool.or_false] at h2 h3
    subst h2 h3
    exact step_0 p q (by omega) lie pos jump a w hG hL
  · simp only [posN, hw, Int.reduceEq, if_true, if_false, decide_false, Bool.or_false] at h2 h3
    subst h3
    by_cases g : pos < 9223372036854775807
    · rw [if_pos g] at h2
      subst h2
      exact step_1a p q (by omega) lie pos jump a w hG hL (decide_eq_true g)
    · rw [if_neg g] at h2
      subst h2
      exact step_1b p q (by omega) lie pos jump a w hG hL (decide_eq_false g)
  · simp only [posN, hw, Int.reduceEq, if_true, if_false, decide_true, Bool.or_true] at h2 h3
    subst h2 h3
    exact step_2 p q (by omega) lie pos jump a w hG hL
  · simp only [posN, hw, Int.reduceEq, if_true, if_false, decide_false, Bool.or_false] at h2 h3
    subst h3
    by_cases g : -9223372036854775808 < pos
    · rw [if_pos g] at h2
      subst h2
      exact step_3a p q (by omega) lie pos jump a w hG hL (decide_eq_true g)
    · rw [if_neg g] at h2
      subst h2
      exact step_3b p q (by omega) lie pos jump a w hG hL (decide_eq_false g)
end Go.Proofs.Ytnmcnailgdcmoaa.B
