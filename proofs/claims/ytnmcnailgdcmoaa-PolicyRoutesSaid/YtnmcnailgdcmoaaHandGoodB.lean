/- Whether any of a row of tracks is so: the library's search by a function; whether nothing is wrong (demand.Good). -/
import Derived.Test.YtnmcnailgdcmoaaAx0
import Derived.Test.YtnmcnailgdcmoaaHas
import Derived.Outline
namespace Go.Proofs.Ytnmcnailgdcmoaa.A
open Go.RowKit Go.Proofs.YtnmcnailgdcmoaaW.PrintWords Go.Proofs.YtnmcnailgdcmoaaW.PrintLast Go.Proofs.YtnmcnailgdcmoaaW.PrintMore
set_option linter.unusedVariables false
set_option linter.unusedSimpArgs false

def cellsG (x : S31) : Array Value := #[.bool x.f0.f0, .int .i64 x.f0.f1, .int .i64 x.f0.f2, .bool x.f0.f3, .int .i64 x.f1.f0, .int .i64 x.f1.f1, .bool x.f1.f2, .bool x.f2, .int .i64 x.f3, .bool x.f4, .bool x.f5]

theorem faultOf.calls (x : S31) (w : World) :
    Calls Try.prog 37 #[.agg (cellsG x)] w fun e w' => e = .returned (.bool x.f4) ∧ Below w.heap.size w w' := by
  unfold cellsG
  go_enter Try.func37, Try.ntmps37
  go_wp2
  go_ret
  exact ⟨rfl, by repeat (with_reducible first | exact Below.refl _ _ | apply below_alloc)⟩

def anyL (g : S31 → Bool) : Nat → List S31 → Int → Option Bool
  | 0, _, _ => none
  | k + 1, l, x => if x < (l.length : Int) then (if 0 ≤ x then (if g (rd_T31 l x) = true then some true else anyL g k l (wrap64 (x + 1))) else none) else some false
theorem anyL_mono (g : S31 → Bool) : ∀ k l x, LeO (anyL g k l x) (anyL g (k + 1) l x)
  | 0, _, _ => fun r h => by simp [anyL] at h
  | k + 1, l, x => by
    rw [anyL]
    conv => rhs; rw [anyL]
    exact LeO.ite (LeO.ite (LeO.ite (LeO.refl _) (anyL_mono g k l _)) (LeO.none _)) (LeO.refl _)

set_option maxHeartbeats 8000000 in
set_option maxRecDepth 100000 in
theorem indexFunc.calls (g : S31 → Bool) (fn : Nat) (fv : Array Value) (k : Nat) (A0 : Option Addr) (c0 : Nat) (l0 : List S31) (r : Bool) (w : World) (hr0 : Kd.C k31 w A0 l0.length l0) (hc0 : l0.length ≤ c0) (h : anyL g k l0 0 = some r)
    (he : ∀ args w1, (callFunc fn args).run Try.prog w1 = .ok (.enter fn args) w1) (hg : ∀ (x : S31) (w1 : World), Below w.heap.size w w1 → Calls Try.prog fn (#[.agg (cellsG x)] ++ fv) w1 fun e w' => e = .returned (.bool (g x)) ∧ Below w1.heap.size w1 w') :
    Calls Try.prog 40 #[.slice A0 l0.length c0, .func (.func fn) #[] fv] w fun e w' => (∃ v : Int, e = .returned (.int .i64 v) ∧ decide (0 ≤ v) = r) ∧ Below w.heap.size w w' := by
  have hu39 := Try.underlying31
  have HR0 := Aside0.mk hr0
  have HC0 := Aside0.mk hc0
  have HG := Aside0.mk hg
  have HE0 := Aside0.mk he
  clear hr0 hc0 hg he
  have HB := Aside0.mk (Below.refl w.heap.size w)
  have H : (anyL g k l0 0) = some r := h
  clear h
  have H' := Aside0.mk H
  clear H
  go_enter Try.func40, Try.ntmps40
  go_wp2
  go_loopg [5, 8] k (fun kq v5 v8 w' => ∃ (x : Int), v8 = .int .i64 x ∧ Aside0 (anyL g kq l0 x = some r) ∧ Aside0 (kq ≤ k) ∧ Aside0 (Below w.heap.size w w'))
  case atStart => exact ⟨(0), (by first | rfl | (simp; done) | (simp [*]; done)), H', ⟨Nat.le_refl _⟩, ⟨by repeat (first | (with_reducible first | exact HB.out | apply below_alloc | apply pw_below_drewN | apply below_drew1) | exact HB.out)⟩⟩
  case round =>
    clear H'
    obtain ⟨x, rfl, HA, HK1, HB⟩ := hrel
    cases gk with
    | zero => exact absurd HA.out (by simp [anyL])
    | succ k1 =>
      have H := HA.out
      clear HA
      simp only [anyL] at H
      by_cases c2 : x < (l0.length : Int)
      · rw [if_pos c2] at H
        have c2b0 : decide (x < (l0.length : Int)) = true := decide_eq_true c2
        by_cases c3 : 0 ≤ x
        · rw [if_pos c3] at H
          have c3b0 : decide (0 ≤ x) = true := decide_eq_true c3
          obtain ⟨ad, e, h0, h1, h2, h3, h4, h5, h6, h7, h8, h9, h10⟩ := at_T31 HR0.out x c3 c2
          cases e
          replace h0 := (HB.out.cell (World.block_lt_of_cell? w _ h0)).trans h0
          replace h1 := (HB.out.cell (World.block_lt_of_cell? w _ h1)).trans h1
          replace h2 := (HB.out.cell (World.block_lt_of_cell? w _ h2)).trans h2
          replace h3 := (HB.out.cell (World.block_lt_of_cell? w _ h3)).trans h3
          replace h4 := (HB.out.cell (World.block_lt_of_cell? w _ h4)).trans h4
          replace h5 := (HB.out.cell (World.block_lt_of_cell? w _ h5)).trans h5
          replace h6 := (HB.out.cell (World.block_lt_of_cell? w _ h6)).trans h6
          replace h7 := (HB.out.cell (World.block_lt_of_cell? w _ h7)).trans h7
          replace h8 := (HB.out.cell (World.block_lt_of_cell? w _ h8)).trans h8
          replace h9 := (HB.out.cell (World.block_lt_of_cell? w _ h9)).trans h9
          replace h10 := (HB.out.cell (World.block_lt_of_cell? w _ h10)).trans h10
          have p241 := eq_true c3
          have q241 := eq_true c2
          clear c2 c3
          rcases Bool.eq_false_or_eq_true (g (rd_T31 l0 x)) with c5 | c5
          · rw [if_pos c5] at H
            have A4 := Aside0.mk c5
            clear c5
            have HE := Aside0.mk (Option.some.inj H)
            clear H
            go_wp2_with fail
            rw [HE0.out]
            refine (HG.out (rd_T31 l0 x) _ HB.out).mono ?_
            rw [A4.out]
            rintro e w6 ⟨rfl, hb⟩
            have HB6 := Aside0.mk (below_step (by repeat (with_reducible first | exact HB.out | apply below_alloc | apply pw_below_drewN | apply below_drew1)) hb)
            clear hb
            go_wp2_with fail
            go_ret
            exact ⟨⟨x, rfl, by rw [← HE.out]; exact decide_eq_true (of_eq_true p241)⟩, HB6.out⟩
          · rw [if_neg (by rw [c5]; decide)] at H
            have A4 := Aside0.mk c5
            clear c5
            have H' := Aside0.mk H
            clear H
            go_wp2_with fail
            rw [HE0.out]
            refine (HG.out (rd_T31 l0 x) _ HB.out).mono ?_
            rw [A4.out]
            rintro e w6 ⟨rfl, hb⟩
            have HB6 := Aside0.mk (below_step (by repeat (with_reducible first | exact HB.out | apply below_alloc | apply pw_below_drewN | apply below_drew1)) hb)
            clear hb
            go_wp2_with fail
            go_roundg k1
            case measure => have := HK1.out; omega
            case rel => exact ⟨(wrap64 (x + 1)), (by first | rfl | (simp; done) | (simp [*]; done)), H', ⟨by have := HK1.out; omega⟩, HB6⟩
        · rw [if_neg c3] at H
          exact absurd H (by simp)
      · rw [if_neg c2] at H
        have c2b0 : decide (x < (l0.length : Int)) = false := decide_eq_false c2
        clear c2
        have HE := Aside0.mk (Option.some.inj H)
        clear H
        go_wp2
        go_ret
        exact ⟨⟨-1, rfl, by rw [← HE.out]; rfl⟩, HB.out⟩

theorem good_enter (args : Array Value) (w1 : World) : (callFunc 37 args).run Try.prog w1 = .ok (.enter 37 args) w1 := by
  go_simp
theorem containsFunc.calls (g : S31 → Bool) (fn : Nat) (fv : Array Value) (k : Nat) (A0 : Option Addr) (c0 : Nat) (l0 : List S31) (r : Bool) (w : World) (hr0 : Kd.C k31 w A0 l0.length l0) (hc0 : l0.length ≤ c0) (h : anyL g k l0 0 = some r)
    (he : ∀ args w1, (callFunc fn args).run Try.prog w1 = .ok (.enter fn args) w1) (hg : ∀ (x : S31) (w1 : World), Below w.heap.size w w1 → Calls Try.prog fn (#[.agg (cellsG x)] ++ fv) w1 fun e w' => e = .returned (.bool (g x)) ∧ Below w1.heap.size w1 w') :
    Calls Try.prog 36 #[.slice A0 l0.length c0, .func (.func fn) #[] fv] w fun e w' => e = .returned (.bool r) ∧ Below w.heap.size w w' := by
  have HR0 := Aside0.mk hr0
  have HC0 := Aside0.mk hc0
  have HF := Aside0.mk h
  have HG := Aside0.mk hg
  have HE0 := Aside0.mk he
  clear hr0 hc0 h hg he
  go_enter Try.func36, Try.ntmps36
  go_wp2_with fail
  refine (indexFunc.calls g fn fv k A0 c0 l0 r _ HR0.out HC0.out HF.out HE0.out HG.out).mono ?_
  rintro e w1 ⟨⟨v, rfl, hv⟩, hb⟩
  have HV := Aside0.mk hv
  have H1 := Aside0.mk hb
  clear hv hb
  go_wp2_with fail
  go_ret
  exact ⟨by rw [← HV.out]; rfl, H1.out⟩
def demand_Good.f (k : Nat) (a0_0 : Bool) (a0_1 : Bool) (a0_2 : Bool) (a0_3 : Bool) (a0_4 : Bool) (a0_5 : Bool) (a0_6 : Bool) (a0_7 : Int) (a0_8 : Bool) (a0_9 : Bool) (a0_10 : Int) (l0_11 : List (S34)) (l1 : List (S31)) : Option (Bool) := (anyL (fun x => x.f4) k l1 0).bind fun t => some (!(decide (a0_7 = 1)) && (a0_8 && (a0_5 && !t)))
theorem demand_Good.mono : ∀ a0 a1 a2 a3 a4 a5 a6 a7 a8 a9 a10 a11 a12 k, LeO (demand_Good.f k a0 a1 a2 a3 a4 a5 a6 a7 a8 a9 a10 a11 a12) (demand_Good.f (k + 1) a0 a1 a2 a3 a4 a5 a6 a7 a8 a9 a10 a11 a12) := by
  intro a0 a1 a2 a3 a4 a5 a6 a7 a8 a9 a10 a11 a12 k
  exact LeO.bind (anyL_mono _ k _ _) (fun _ => LeO.refl _)
set_option maxHeartbeats 8000000 in
set_option maxRecDepth 100000 in
theorem demand_Good.core (k : Nat) (a0_0 : Bool) (a0_1 : Bool) (a0_2 : Bool) (a0_3 : Bool) (a0_4 : Bool) (a0_5 : Bool) (a0_6 : Bool) (a0_7 : Int) (a0_8 : Bool) (a0_9 : Bool) (a0_10 : Int) (tv : Value) (l0_11 : List (S34)) (A1 : Option Addr) (c1 : Nat) (l1 : List (S31)) (r : Bool) (w : World) (hr1 : Kd.C k31 w A1 l1.length l1) (hc1 : l1.length ≤ c1) (h : demand_Good.f k a0_0 a0_1 a0_2 a0_3 a0_4 a0_5 a0_6 a0_7 a0_8 a0_9 a0_10 l0_11 l1 = some r) :
    Calls Try.prog 30 #[.agg #[.bool a0_0, .bool a0_1, .bool a0_2, .bool a0_3, .bool a0_4, .bool a0_5, .bool a0_6, .int .i64 a0_7, .bool a0_8, .bool a0_9, .int .i64 a0_10, tv], .slice A1 l1.length c1] w fun e w' => e = .returned (.bool r) ∧ Below w.heap.size w w' := by
  obtain ⟨t, ht, hr⟩ := Option.bind_eq_some_iff.mp h
  obtain rfl := Option.some.inj hr
  have HR1 := Aside0.mk hr1
  have HC1 := Aside0.mk hc1
  have HF := Aside0.mk ht
  clear hr1 hc1 h ht hr
  rcases Bool.eq_false_or_eq_true (decide (a0_7 = 1)) with h1 | h1
  · have e1 : (a0_7 != 1) = false := by simp [bne, of_decide_eq_true h1]
    have e2 : (a0_7 == 1) = true := by simp [of_decide_eq_true h1]
    simp only [h1, Bool.not_true, Bool.false_and]
    go_enter Try.func30, Try.ntmps30
    go_wp2
    go_ret
    exact ⟨rfl, by repeat (with_reducible first | exact Below.refl _ _ | apply below_alloc)⟩
  · have e1 : (a0_7 != 1) = true := by simp [bne, of_decide_eq_false h1]
    have e2 : (a0_7 == 1) = false := by simp [of_decide_eq_false h1]
    simp only [h1, Bool.not_false, Bool.true_and]
    cases a0_8
    · simp only [Bool.false_and]
      go_enter Try.func30, Try.ntmps30
      go_wp2
      go_ret
      exact ⟨rfl, by repeat (with_reducible first | exact Below.refl _ _ | apply below_alloc)⟩
    · simp only [Bool.true_and]
      cases a0_5
      · simp only [Bool.false_and]
        go_enter Try.func30, Try.ntmps30
        go_wp2
        go_ret
        exact ⟨rfl, by repeat (with_reducible first | exact Below.refl _ _ | apply below_alloc)⟩
      · simp only [Bool.true_and]
        go_enter Try.func30, Try.ntmps30
        go_wp2_with fail
        refine (containsFunc.calls (fun x => x.f4) _ #[] k A1 c1 l1 t _ (Kd.C_alloc HR1.out _) HC1.out HF.out good_enter (fun x w1 _ => faultOf.calls x w1)).mono ?_
        rintro e w1 ⟨rfl, hb⟩
        have H1 : Aside0 (Below w.heap.size w w1) := ⟨below_step (below_alloc (Below.refl _ _) _) hb⟩
        clear hb
        go_wp2_with fail
        go_ret
        exact ⟨rfl, H1.out⟩


theorem demand_Good.calls (k : Nat) (a0_0 : Bool) (a0_1 : Bool) (a0_2 : Bool) (a0_3 : Bool) (a0_4 : Bool) (a0_5 : Bool) (a0_6 : Bool) (a0_7 : Int) (a0_8 : Bool) (a0_9 : Bool) (a0_10 : Int) (A0_11 : Option Addr) (c0_11 : Nat) (l0_11 : List (S34)) (A1 : Option Addr) (c1 : Nat) (l1 : List (S31)) (r : Bool) (w : World) (hr0_11 : Kd.C k34 w A0_11 l0_11.length l0_11) (hc0_11 : l0_11.length ≤ c0_11) (hr1 : Kd.C k31 w A1 l1.length l1) (hc1 : l1.length ≤ c1) (h : demand_Good.f k a0_0 a0_1 a0_2 a0_3 a0_4 a0_5 a0_6 a0_7 a0_8 a0_9 a0_10 l0_11 l1 = some r) :
    Calls Try.prog 30 #[.agg #[.bool a0_0, .bool a0_1, .bool a0_2, .bool a0_3, .bool a0_4, .bool a0_5, .bool a0_6, .int .i64 a0_7, .bool a0_8, .bool a0_9, .int .i64 a0_10, .slice A0_11 l0_11.length c0_11], .slice A1 l1.length c1] w fun e w' => e = .returned (.bool r) ∧ Below w.heap.size w w' :=
  demand_Good.core k a0_0 a0_1 a0_2 a0_3 a0_4 a0_5 a0_6 a0_7 a0_8 a0_9 a0_10 _ l0_11 A1 c1 l1 r w hr1 hc1 h
end Go.Proofs.Ytnmcnailgdcmoaa.A
