/- Whether one of a row of signals is locked: lock.Any, over the library's search by a function. (The loop's frame is that of the printed walk of the document's own Any.) -/
import Derived.Test.YtllmckdmglacdaaAx0
import Derived.Test.YtllmckdmglacdaaHas
import Derived.Outline
namespace Go.Proofs.Ytllmckdmglacdaa.A
open Go.RowKit Go.Proofs.YtllmckdmglacdaaW.PrintWords Go.Proofs.YtllmckdmglacdaaW.PrintLast Go.Proofs.YtllmckdmglacdaaW.PrintMore
set_option linter.unusedVariables false
set_option linter.unusedSimpArgs false

/-- Whether a signal's train may still come. -/
def lock_Locked.f (a0_0 : Bool) (a0_1 : Int) : Option Bool := some (a0_0 || decide (a0_1 > 0))
theorem lock_Locked.calls (a0_0 : Bool) (a0_1 : Int) (r : Bool) (w : World) (h : lock_Locked.f a0_0 a0_1 = some r) :
    Calls Try.prog 24 #[.agg #[.bool a0_0, .int .i64 a0_1]] w fun e w' => e = .returned (.bool r) ∧ Below w.heap.size w w' := by
  obtain rfl := Option.some.inj h
  clear h
  rcases Bool.eq_false_or_eq_true (decide (a0_1 > 0)) with h1 | h1 <;> cases a0_0
  all_goals
    simp only [h1, Bool.or_true, Bool.true_or, Bool.or_false, Bool.false_or]
    go_enter Try.func24, Try.ntmps24
    go_wp2
    go_ret
    exact ⟨rfl, by repeat (with_reducible first | exact Below.refl _ _ | apply below_alloc)⟩

def lockedB (x : S38) : Bool := x.f0 || decide (x.f1 > 0)
theorem locked_f (x : S38) : lock_Locked.f x.f0 x.f1 = some (lockedB x) := by
  rfl
def lock_Any.l0 : Nat → List S38 → Int → Option Bool
  | 0, _, _ => none
  | k + 1, l, x => if x < (l.length : Int) then (if 0 ≤ x then (if lockedB (rd_T38 l x) = true then some true else lock_Any.l0 k l (wrap64 (x + 1))) else none) else some false
def lock_Any.f (k : Nat) (l : List S38) : Option Bool := lock_Any.l0 k l 0
theorem lock_Any.mono_l : ∀ k l x, LeO (lock_Any.l0 k l x) (lock_Any.l0 (k + 1) l x)
  | 0, _, _ => fun r h => by simp [lock_Any.l0] at h
  | k + 1, l, x => by
    rw [lock_Any.l0]
    conv => rhs; rw [lock_Any.l0]
    exact LeO.ite (LeO.ite (LeO.ite (LeO.refl _) (lock_Any.mono_l k l _)) (LeO.none _)) (LeO.refl _)
theorem lock_Any.mono (l : List S38) (k : Nat) : LeO (lock_Any.f k l) (lock_Any.f (k + 1) l) := lock_Any.mono_l k l 0

set_option maxHeartbeats 8000000 in
set_option maxRecDepth 100000 in
theorem indexFunc.calls (k : Nat) (A0 : Option Addr) (c0 : Nat) (l0 : List S38) (r : Bool) (w : World) (hr0 : Kd.C k38 w A0 l0.length l0) (hc0 : l0.length ≤ c0) (h : lock_Any.f k l0 = some r) :
    Calls Try.prog 34 #[.slice A0 l0.length c0, .func (.func 24) #[] #[]] w fun e w' => (∃ v : Int, e = .returned (.int .i64 v) ∧ decide (0 ≤ v) = r) ∧ Below w.heap.size w w' := by
  have hu38 := Try.underlying38
  have HR0 := Aside0.mk hr0
  have HC0 := Aside0.mk hc0
  clear hr0 hc0
  have HB := Aside0.mk (Below.refl w.heap.size w)
  have H : (lock_Any.l0 k l0 0) = some r := h
  clear h
  have H' := Aside0.mk H
  clear H
  go_enter Try.func34, Try.ntmps34
  go_wp2
  go_loopg [5, 8] k (fun kq v5 v8 w' => ∃ (x : Int), v8 = .int .i64 x ∧ Aside0 (lock_Any.l0 kq l0 x = some r) ∧ Aside0 (kq ≤ k) ∧ Aside0 (Below w.heap.size w w'))
  case atStart => exact ⟨(0), (by first | rfl | (simp; done) | (simp [*]; done)), H', ⟨Nat.le_refl _⟩, ⟨by repeat (first | (with_reducible first | exact HB.out | apply below_alloc | apply pw_below_drewN | apply below_drew1) | exact HB.out)⟩⟩
  case round =>
    clear H'
    obtain ⟨x, rfl, HA, HK1, HB⟩ := hrel
    cases gk with
    | zero => exact absurd HA.out (by simp [lock_Any.l0])
    | succ k1 =>
      have H := HA.out
      clear HA
      simp only [lock_Any.l0] at H
      by_cases c2 : x < (l0.length : Int)
      · rw [if_pos c2] at H
        have c2b0 : decide (x < (l0.length : Int)) = true := decide_eq_true c2
        by_cases c3 : 0 ≤ x
        · rw [if_pos c3] at H
          have c3b0 : decide (0 ≤ x) = true := decide_eq_true c3
          obtain ⟨ad241, e241, hx241_0, hx241_1⟩ := at_T38 HR0.out x c3 c2
          cases e241
          replace hx241_0 := (HB.out.cell (World.block_lt_of_cell? w _ hx241_0)).trans hx241_0
          replace hx241_1 := (HB.out.cell (World.block_lt_of_cell? w _ hx241_1)).trans hx241_1
          have p241 := eq_true c3
          have q241 := eq_true c2
          have A4 := Aside0.mk (locked_f (rd_T38 l0 x))
          clear c2 c3
          rcases Bool.eq_false_or_eq_true (lockedB (rd_T38 l0 x)) with c5 | c5
          · rw [c5] at A4
            rw [if_pos c5] at H
            clear c5
            have HE := Aside0.mk (Option.some.inj H)
            clear H
            go_wp2_with fail
            refine (lock_Locked.calls ((rd_T38 l0 x).f0) ((rd_T38 l0 x).f1) true _ A4.out).mono ?_
            rintro e w6 ⟨rfl, hb⟩
            have HB6 := Aside0.mk (below_step (by repeat (with_reducible first | exact HB.out | apply below_alloc | apply pw_below_drewN | apply below_drew1)) hb)
            clear hb
            go_wp2_with fail
            go_ret
            exact ⟨⟨x, rfl, by rw [← HE.out]; exact decide_eq_true (of_eq_true p241)⟩, HB6.out⟩
          · rw [c5] at A4
            rw [if_neg (by rw [c5]; decide)] at H
            clear c5
            have H' := Aside0.mk H
            clear H
            go_wp2_with fail
            refine (lock_Locked.calls ((rd_T38 l0 x).f0) ((rd_T38 l0 x).f1) false _ A4.out).mono ?_
            rintro e w6 ⟨rfl, hb⟩
            have HB6 := Aside0.mk (below_step (by repeat (with_reducible first | exact HB.out | apply below_alloc | apply pw_below_drewN | apply below_drew1)) hb)
            clear hb
            go_wp2_with fail
            go_roundg k1
            case measure => have := HK1.out; omega
            case rel => exact ⟨(wrap64 (x + 1)), (by first | rfl | (simp; done) | (simp [*]; done)), H', ⟨by have := HK1.out; omega⟩, HB6⟩
        · rw [if_neg c3] at H
          exact absurd H (by simp)
      · rw [if_neg c2] at H
        have c2b0 : decide (x < (l0.length : Int)) = false := decide_eq_false c2
        clear c2
        have HE := Aside0.mk (Option.some.inj H)
        clear H
        go_wp2
        go_ret
        exact ⟨⟨-1, rfl, by rw [← HE.out]; rfl⟩, HB.out⟩

theorem containsFunc.calls (k : Nat) (A0 : Option Addr) (c0 : Nat) (l0 : List S38) (r : Bool) (w : World) (hr0 : Kd.C k38 w A0 l0.length l0) (hc0 : l0.length ≤ c0) (h : lock_Any.f k l0 = some r) :
    Calls Try.prog 32 #[.slice A0 l0.length c0, .func (.func 24) #[] #[]] w fun e w' => e = .returned (.bool r) ∧ Below w.heap.size w w' := by
  have HR0 := Aside0.mk hr0
  have HC0 := Aside0.mk hc0
  have HF := Aside0.mk h
  clear hr0 hc0 h
  go_enter Try.func32, Try.ntmps32
  go_wp2_with fail
  refine (indexFunc.calls k A0 c0 l0 r _ HR0.out HC0.out HF.out).mono ?_
  rintro e w1 ⟨⟨v, rfl, hv⟩, hb⟩
  have HV := Aside0.mk hv
  have H1 := Aside0.mk hb
  clear hv hb
  go_wp2_with fail
  go_ret
  exact ⟨by rw [← HV.out]; rfl, H1.out⟩

theorem lock_Any.calls (k : Nat) (A0 : Option Addr) (c0 : Nat) (l0 : List S38) (r : Bool) (w : World) (hr0 : Kd.C k38 w A0 l0.length l0) (hc0 : l0.length ≤ c0) (h : lock_Any.f k l0 = some r) :
    Calls Try.prog 26 #[.slice A0 l0.length c0] w fun e w' => e = .returned (.bool r) ∧ Below w.heap.size w w' := by
  have HR0 := Aside0.mk hr0
  have HC0 := Aside0.mk hc0
  have HF := Aside0.mk h
  clear hr0 hc0 h
  go_enter Try.func26, Try.ntmps26
  go_wp2_with fail
  refine (containsFunc.calls k A0 c0 l0 r _ HR0.out HC0.out HF.out).mono ?_
  rintro e w1 ⟨rfl, hb⟩
  have H1 := Aside0.mk hb
  clear hb
  go_wp2_with fail
  go_ret
  exact ⟨rfl, H1.out⟩
end Go.Proofs.Ytllmckdmglacdaa.A
