/- Each function's own law: what the call answers, as a plain Lean function; a text that a program of this session wrote. -/
import Derived.Test.YtdnokmlonahmnaaAx0
import Derived.Test.YtdnokmlonahmnaaAx6
import Derived.Test.YtdnokmlonahmnaaHandAxle
import Derived.Test.YtdnokmlonahmnaaHandSmall11
namespace Go.Proofs.Ytdnokmlonahmnaa.A
open Go.RowKit Go.Proofs.YtdnokmlonahmnaaW.PrintWords Go.Proofs.YtdnokmlonahmnaaW.PrintLast Go.Proofs.YtdnokmlonahmnaaW.PrintMore
attribute [local go_sem] max2_int min2_int max_two min_two max_three min_three max_four min_four   -- for this text's walks alone
set_option linter.unusedVariables false
set_option linter.unusedSimpArgs false

/-! ### crossbucklaw11_AxleClears: function 9 -/
mutual
def crossbucklaw11_AxleClears.j0 : Nat → Int → Int → Int → Int → Bool → Bool → Option (Bool)
  | 0, _, _, _, _, _, _ => none
  | k + 1, x0, x1, x2, x3, x9, x36 => if x36 = true then (some x9) else ((axle_Step.f false 0 0 false x0 x0).bind fun bt198 => ((axle_Clear.f bt198.1 bt198.2.1 bt198.2.2.1 bt198.2.2.2).bind fun t203 => (if t203 = true then (crossbucklaw11_AxleClears.l0 k x0 x1 x2 x3 x9 0 bt198.1 bt198.2.1 bt198.2.2.1 bt198.2.2.2) else (some false))))
def crossbucklaw11_AxleClears.l0 : Nat → Int → Int → Int → Int → Bool → Int → Bool → Int → Int → Bool → Option (Bool)
  | 0, _, _, _, _, _, _, _, _, _, _ => none
  | k + 1, x0, x1, x2, x3, x9, x11, x203000, x203001, x203002, x203003 => if x11 < x3 then ((axle_Step.f x203000 x203001 x203002 x203003 (wrap64 (x0 + x1)) x0).bind fun bt204 => ((axle_Clear.f bt204.1 bt204.2.1 bt204.2.2.1 bt204.2.2.2).bind fun t208 => (if t208 = true then (some false) else (if bt204.2.2.2 = true then (some false) else ((axle_On.f bt204.1 bt204.2.1 bt204.2.2.1 bt204.2.2.2).bind fun t209 => (if t209 = x1 then (crossbucklaw11_AxleClears.l0 k x0 x1 x2 x3 x9 (wrap64 (x11 + 1)) bt204.1 bt204.2.1 bt204.2.2.1 bt204.2.2.2) else (some false))))))) else (crossbucklaw11_AxleClears.l1 k x0 x1 x2 x3 x9 0 x203000 x203001 x203002 x203003)
def crossbucklaw11_AxleClears.l1 : Nat → Int → Int → Int → Int → Bool → Int → Bool → Int → Int → Bool → Option (Bool)
  | 0, _, _, _, _, _, _, _, _, _, _ => none
  | k + 1, x0, x1, x2, x3, x9, x12, x203000, x203001, x203002, x203003 => if x12 < x3 then ((axle_Step.f x203000 x203001 x203002 x203003 (wrap64 (x0 + x1)) (wrap64 (x0 + x2))).bind fun bt215 => ((axle_Clear.f bt215.1 bt215.2.1 bt215.2.2.1 bt215.2.2.2).bind fun t219 => (if t219 = true then (some false) else (if bt215.2.2.2 = true then (some false) else ((axle_On.f bt215.1 bt215.2.1 bt215.2.2.1 bt215.2.2.2).bind fun t220 => (if t220 = (wrap64 (x1 - x2)) then (crossbucklaw11_AxleClears.l1 k x0 x1 x2 x3 x9 (wrap64 (x12 + 1)) bt215.1 bt215.2.1 bt215.2.2.1 bt215.2.2.2) else (some false))))))) else ((axle_Step.f x203000 x203001 x203002 x203003 (wrap64 (x0 + x1)) (wrap64 (x0 + x1))).bind fun bt210 => (if x9 = true then ((axle_Clear.f bt210.1 bt210.2.1 bt210.2.2.1 bt210.2.2.2).bind fun t214 => (some t214)) else (some false)))
end
def crossbucklaw11_AxleClears.f (k : Nat) (a0 : Int) (a1 : Int) (a2 : Int) (a3 : Int) : Option (Bool) := (crossbucklaw11_small.f).bind fun t197 => (if a1 < 1 then (crossbucklaw11_AxleClears.j0 k a0 a1 a2 a3 t197 true) else (if a1 > 64 then (crossbucklaw11_AxleClears.j0 k a0 a1 a2 a3 t197 true) else (if a2 < 0 then (crossbucklaw11_AxleClears.j0 k a0 a1 a2 a3 t197 true) else (if a2 ≥ a1 then (crossbucklaw11_AxleClears.j0 k a0 a1 a2 a3 t197 true) else (if a3 < 1 then (crossbucklaw11_AxleClears.j0 k a0 a1 a2 a3 t197 true) else (crossbucklaw11_AxleClears.j0 k a0 a1 a2 a3 t197 (decide (a3 > 50))))))))
theorem crossbucklaw11_AxleClears.mono_l : ∀ k, (∀ y0 y1 y2 y3 y4 y5, LeO (crossbucklaw11_AxleClears.j0 k y0 y1 y2 y3 y4 y5) (crossbucklaw11_AxleClears.j0 (k + 1) y0 y1 y2 y3 y4 y5)) ∧ (∀ y0 y1 y2 y3 y4 y5 y6 y7 y8 y9, LeO (crossbucklaw11_AxleClears.l0 k y0 y1 y2 y3 y4 y5 y6 y7 y8 y9) (crossbucklaw11_AxleClears.l0 (k + 1) y0 y1 y2 y3 y4 y5 y6 y7 y8 y9)) ∧ (∀ y0 y1 y2 y3 y4 y5 y6 y7 y8 y9, LeO (crossbucklaw11_AxleClears.l1 k y0 y1 y2 y3 y4 y5 y6 y7 y8 y9) (crossbucklaw11_AxleClears.l1 (k + 1) y0 y1 y2 y3 y4 y5 y6 y7 y8 y9))
  | 0 => ⟨fun _ _ _ _ _ _ r h => by simp [crossbucklaw11_AxleClears.j0] at h, fun _ _ _ _ _ _ _ _ _ _ r h => by simp [crossbucklaw11_AxleClears.l0] at h, fun _ _ _ _ _ _ _ _ _ _ r h => by simp [crossbucklaw11_AxleClears.l1] at h⟩
  | k + 1 => by
    obtain ⟨ih0, ih1, ih2⟩ := crossbucklaw11_AxleClears.mono_l k
    refine ⟨?_, ?_, ?_⟩
    · intro y0 y1 y2 y3 y4 y5
      unfold crossbucklaw11_AxleClears.j0
      repeat' first
      | (with_reducible exact ih0 _ _ _ _ _ _)
      | (with_reducible exact ih1 _ _ _ _ _ _ _ _ _ _)
      | (with_reducible exact ih2 _ _ _ _ _ _ _ _ _ _)
      | (with_reducible exact LeO.refl _)
      | (with_reducible exact LeO.none _)
      | (with_reducible refine LeO.ite ?_ ?_)
      | (with_reducible refine LeO.bind ?_ (fun _ => ?_))
      | exact ih0 _ _ _ _ _ _
      | exact ih1 _ _ _ _ _ _ _ _ _ _
      | exact ih2 _ _ _ _ _ _ _ _ _ _
      | exact LeO.none _
      | refine LeO.ite ?_ ?_
      | refine LeO.bind ?_ (fun _ => ?_)
    · intro y0 y1 y2 y3 y4 y5 y6 y7 y8 y9
      unfold crossbucklaw11_AxleClears.l0
      repeat' first
      | (with_reducible exact ih0 _ _ _ _ _ _)
      | (with_reducible exact ih1 _ _ _ _ _ _ _ _ _ _)
      | (with_reducible exact ih2 _ _ _ _ _ _ _ _ _ _)
      | (with_reducible exact LeO.refl _)
      | (with_reducible exact LeO.none _)
      | (with_reducible refine LeO.ite ?_ ?_)
      | (with_reducible refine LeO.bind ?_ (fun _ => ?_))
      | exact ih0 _ _ _ _ _ _
      | exact ih1 _ _ _ _ _ _ _ _ _ _
      | exact ih2 _ _ _ _ _ _ _ _ _ _
      | exact LeO.none _
      | refine LeO.ite ?_ ?_
      | refine LeO.bind ?_ (fun _ => ?_)
    · intro y0 y1 y2 y3 y4 y5 y6 y7 y8 y9
      unfold crossbucklaw11_AxleClears.l1
      repeat' first
      | (with_reducible exact ih0 _ _ _ _ _ _)
      | (with_reducible exact ih1 _ _ _ _ _ _ _ _ _ _)
      | (with_reducible exact ih2 _ _ _ _ _ _ _ _ _ _)
      | (with_reducible exact LeO.refl _)
      | (with_reducible exact LeO.none _)
      | (with_reducible refine LeO.ite ?_ ?_)
      | (with_reducible refine LeO.bind ?_ (fun _ => ?_))
      | exact ih0 _ _ _ _ _ _
      | exact ih1 _ _ _ _ _ _ _ _ _ _
      | exact ih2 _ _ _ _ _ _ _ _ _ _
      | exact LeO.none _
      | refine LeO.ite ?_ ?_
      | refine LeO.bind ?_ (fun _ => ?_)
theorem crossbucklaw11_AxleClears.mono : ∀ a0 a1 a2 a3 k, LeO (crossbucklaw11_AxleClears.f k a0 a1 a2 a3) (crossbucklaw11_AxleClears.f (k + 1) a0 a1 a2 a3) := by
  intro a0 a1 a2 a3 k
  obtain ⟨ih0, ih1, ih2⟩ := crossbucklaw11_AxleClears.mono_l k
  unfold crossbucklaw11_AxleClears.f
  repeat' first
      | (with_reducible exact ih0 _ _ _ _ _ _)
      | (with_reducible exact ih1 _ _ _ _ _ _ _ _ _ _)
      | (with_reducible exact ih2 _ _ _ _ _ _ _ _ _ _)
      | (with_reducible exact LeO.refl _)
      | (with_reducible exact LeO.none _)
      | (with_reducible refine LeO.ite ?_ ?_)
      | (with_reducible refine LeO.bind ?_ (fun _ => ?_))
      | exact ih0 _ _ _ _ _ _
      | exact ih1 _ _ _ _ _ _ _ _ _ _
      | exact ih2 _ _ _ _ _ _ _ _ _ _
      | exact LeO.none _
      | refine LeO.ite ?_ ?_
      | refine LeO.bind ?_ (fun _ => ?_)
set_option maxHeartbeats 8000000 in
set_option maxRecDepth 100000 in
theorem crossbucklaw11_AxleClears.calls (k : Nat) (a0 : Int) (a1 : Int) (a2 : Int) (a3 : Int) (r : Bool) (w : World) (h : crossbucklaw11_AxleClears.f k a0 a1 a2 a3 = some r) :
    Calls Try.prog 9 #[.int .i64 a0, .int .i64 a1, .int .i64 a2, .int .i64 a3] w fun e w' => e = .returned (.bool r) ∧ Below w.heap.size w w' := by
  have hu34 := Try.underlying34
  have HB := Aside0.mk (Below.refl w.heap.size w)
  have H : ((crossbucklaw11_small.f).bind fun t197 => (if a1 < 1 then (crossbucklaw11_AxleClears.j0 k a0 a1 a2 a3 t197 true) else (if a1 > 64 then (crossbucklaw11_AxleClears.j0 k a0 a1 a2 a3 t197 true) else (if a2 < 0 then (crossbucklaw11_AxleClears.j0 k a0 a1 a2 a3 t197 true) else (if a2 ≥ a1 then (crossbucklaw11_AxleClears.j0 k a0 a1 a2 a3 t197 true) else (if a3 < 1 then (crossbucklaw11_AxleClears.j0 k a0 a1 a2 a3 t197 true) else (crossbucklaw11_AxleClears.j0 k a0 a1 a2 a3 t197 (decide (a3 > 50))))))))) = some r := h
  clear h
  replace H := Option.bind_eq_some_iff.mp H
  obtain ⟨t197, A50, H⟩ := H
  replace H : (if a1 < 1 then (crossbucklaw11_AxleClears.j0 k a0 a1 a2 a3 t197 true) else (if a1 > 64 then (crossbucklaw11_AxleClears.j0 k a0 a1 a2 a3 t197 true) else (if a2 < 0 then (crossbucklaw11_AxleClears.j0 k a0 a1 a2 a3 t197 true) else (if a2 ≥ a1 then (crossbucklaw11_AxleClears.j0 k a0 a1 a2 a3 t197 true) else (if a3 < 1 then (crossbucklaw11_AxleClears.j0 k a0 a1 a2 a3 t197 true) else (crossbucklaw11_AxleClears.j0 k a0 a1 a2 a3 t197 (decide (a3 > 50)))))))) = some r := H
  have A5 := Aside0.mk A50
  clear A50
  have HC6 := Aside0.mk H
  clear H
  go_enter Try.func9, Try.ntmps9
  go_upto_region 2 with (first | ((with_reducible refine gate_callee (f := 21) rfl ?_); refine goesL_ (some 13) rfl rfl Try.func21 (by kernel_rfl) rfl #[] rfl (by (try simp only [List.map_toArray, List.map_cons, List.map_nil]); first | done | rfl | (simp only [List.length_drop, List.length_take]; rfl)) ?_; (with_reducible refine (crossbucklaw11_small.calls  t197 _ A5.out).mono ?_); rintro e w7 ⟨rfl, hb⟩; refine ⟨_, rfl, ?_⟩; have n0_ := Aside0.mk (below_step (by repeat (first | (with_reducible first | exact HB.out | apply below_alloc | apply pw_below_drewN | apply below_drew1) | exact HB.out)) hb); clear HB; have HB := n0_; clear n0_; (try clear hb); (try clear hb2); (try clear hk); (try clear hi)))
  (try simp only [Act.put, List.setIfInBounds_toArray, List.set_cons_zero, List.set_cons_succ])
  go_cut [36] (fun v36 wc => ∃ (kq : Nat) (x36_5 : Bool), v36 = .bool x36_5 ∧ Aside0 (crossbucklaw11_AxleClears.j0 kq a0 a1 a2 a3 t197 x36_5 = some r) ∧ Aside0 (kq ≤ k) ∧ Aside0 (Below w.heap.size w wc))
  case first =>
    have H := HC6.out
    clear HC6
    by_cases c8 : a1 < 1
    · rw [if_pos c8] at H
      have c8b0 : decide (a1 < 1) = true := decide_eq_true c8
      clear c8
      (first | rw [c8b0] | (simp only [i64_w, i32_w]; rw [c8b0]) | skip)
      have H' := Aside0.mk H
      clear H
      go_wp2
      go_meet
      case rel => exact ⟨_, (true), (by first | rfl | (simp; done) | (simp [*]; done)), H', ⟨by first | omega | exact Nat.le_refl _⟩, ⟨by repeat (first | (with_reducible first | exact HB.out | apply below_alloc | apply pw_below_drewN | apply below_drew1) | exact HB.out)⟩⟩
    · rw [if_neg c8] at H
      have c8b0 : decide (a1 < 1) = false := decide_eq_false c8
      clear c8
      (first | rw [c8b0] | (simp only [i64_w, i32_w]; rw [c8b0]) | skip)
      by_cases c9 : a1 > 64
      · rw [if_pos c9] at H
        have c9b0 : decide (64 < a1) = true := decide_eq_true c9
        clear c9
        have H' := Aside0.mk H
        clear H
        go_wp2
        go_meet
        case rel => exact ⟨_, (true), (by first | rfl | (simp; done) | (simp [*]; done)), H', ⟨by first | omega | exact Nat.le_refl _⟩, ⟨by repeat (first | (with_reducible first | exact HB.out | apply below_alloc | apply pw_below_drewN | apply below_drew1) | exact HB.out)⟩⟩
      · rw [if_neg c9] at H
        have c9b0 : decide (64 < a1) = false := decide_eq_false c9
        clear c9
        by_cases c10 : a2 < 0
        · rw [if_pos c10] at H
          have c10b0 : decide (a2 < 0) = true := decide_eq_true c10
          clear c10
          have H' := Aside0.mk H
          clear H
          go_wp2
          go_meet
          case rel => exact ⟨_, (true), (by first | rfl | (simp; done) | (simp [*]; done)), H', ⟨by first | omega | exact Nat.le_refl _⟩, ⟨by repeat (first | (with_reducible first | exact HB.out | apply below_alloc | apply pw_below_drewN | apply below_drew1) | exact HB.out)⟩⟩
        · rw [if_neg c10] at H
          have c10b0 : decide (a2 < 0) = false := decide_eq_false c10
          clear c10
          by_cases c11 : a2 ≥ a1
          · rw [if_pos c11] at H
            have c11b0 : decide (a1 ≤ a2) = true := decide_eq_true c11
            clear c11
            have H' := Aside0.mk H
            clear H
            go_wp2
            go_meet
            case rel => exact ⟨_, (true), (by first | rfl | (simp; done) | (simp [*]; done)), H', ⟨by first | omega | exact Nat.le_refl _⟩, ⟨by repeat (first | (with_reducible first | exact HB.out | apply below_alloc | apply pw_below_drewN | apply below_drew1) | exact HB.out)⟩⟩
          · rw [if_neg c11] at H
            have c11b0 : decide (a1 ≤ a2) = false := decide_eq_false c11
            clear c11
            by_cases c12 : a3 < 1
            · rw [if_pos c12] at H
              have c12b0 : decide (a3 < 1) = true := decide_eq_true c12
              clear c12
              have H' := Aside0.mk H
              clear H
              go_wp2
              go_meet
              case rel => exact ⟨_, (true), (by first | rfl | (simp; done) | (simp [*]; done)), H', ⟨by first | omega | exact Nat.le_refl _⟩, ⟨by repeat (first | (with_reducible first | exact HB.out | apply below_alloc | apply pw_below_drewN | apply below_drew1) | exact HB.out)⟩⟩
            · rw [if_neg c12] at H
              have c12b0 : decide (a3 < 1) = false := decide_eq_false c12
              clear c12
              have H' := Aside0.mk H
              clear H
              go_wp2
              go_meet
              case rel => exact ⟨_, (decide (a3 > 50)), (by first | rfl | (simp; done) | (simp [*]; done)), H', ⟨by first | omega | exact Nat.le_refl _⟩, ⟨by repeat (first | (with_reducible first | exact HB.out | apply below_alloc | apply pw_below_drewN | apply below_drew1) | exact HB.out)⟩⟩
  case rest =>
    clear HC6
    try clear c1
    try clear c2
    try clear p2
    try clear c8
    try clear c8b0
    try clear c9
    try clear c9b0
    try clear c10
    try clear c10b0
    try clear c11
    try clear c11b0
    try clear c12
    try clear c12b0
    obtain ⟨kq, x36_5, rfl, HA, HJ5, HB⟩ := hcut
    cases kq with
    | zero => exact absurd HA.out (by simp [crossbucklaw11_AxleClears.j0])
    | succ kj5 =>
      have H := HA.out
      clear HA
      simp only [crossbucklaw11_AxleClears.j0] at H
      by_cases c13 : x36_5 = true
      · subst c13
        have H1 : (some t197) = some r := by rw [if_pos rfl] at H; exact H
        clear H
        have H := H1
        clear H1
        obtain rfl := Option.some.inj H
        go_wp2
        go_ret
        exact ⟨by first | rfl | (simp [errW_none, errW_some] <;> rfl) | (simp [*, errW_none, errW_some] <;> rfl), by repeat (first | (with_reducible first | exact HB.out | apply below_alloc | apply pw_below_drewN | apply below_drew1) | exact HB.out)⟩
      · replace c13 := Bool.eq_false_iff.mpr c13
        subst c13
        have H1 : ((axle_Step.f false 0 0 false a0 a0).bind fun bt198 => ((axle_Clear.f bt198.1 bt198.2.1 bt198.2.2.1 bt198.2.2.2).bind fun t203 => (if t203 = true then (crossbucklaw11_AxleClears.l0 kj5 a0 a1 a2 a3 t197 0 bt198.1 bt198.2.1 bt198.2.2.1 bt198.2.2.2) else (some false)))) = some r := by rw [if_neg (show ¬ (false = true) by decide)] at H; exact H
        clear H
        have H := H1
        clear H1
        replace H := Option.bind_eq_some_iff.mp H
        obtain ⟨⟨t198, t199, t200, t201⟩, A140, H⟩ := H
        replace H : ((axle_Clear.f t198 t199 t200 t201).bind fun t203 => (if t203 = true then (crossbucklaw11_AxleClears.l0 kj5 a0 a1 a2 a3 t197 0 t198 t199 t200 t201) else (some false))) = some r := H
        have A14 := Aside0.mk A140
        clear A140
        replace H := Option.bind_eq_some_iff.mp H
        obtain ⟨t203, A150, H⟩ := H
        replace H : (if t203 = true then (crossbucklaw11_AxleClears.l0 kj5 a0 a1 a2 a3 t197 0 t198 t199 t200 t201) else (some false)) = some r := H
        have A15 := Aside0.mk A150
        clear A150
        by_cases c16 : t203 = true
        · subst c16
          have H1 : (crossbucklaw11_AxleClears.l0 kj5 a0 a1 a2 a3 t197 0 t198 t199 t200 t201) = some r := by rw [if_pos rfl] at H; exact H
          clear H
          have H := H1
          clear H1
          have H' := Aside0.mk H
          clear H
          go_wp2_with (first | ((with_reducible refine gate_callee (f := 22) rfl ?_); refine goesL_ (some 41) rfl rfl Try.func22 (by kernel_rfl) rfl #[.agg #[.bool false, .int .i64 0, .int .i64 0, .bool false], .int .i64 a0, .int .i64 a0] rfl (by (try simp only [List.map_toArray, List.map_cons, List.map_nil]); first | done | rfl | (simp only [List.length_drop, List.length_take]; rfl)) ?_; (with_reducible refine (axle_Step.calls false 0 0 false a0 a0 t198 t199 t200 t201 _ A14.out).mono ?_); rintro e w17 ⟨rfl, hb⟩; refine ⟨_, rfl, ?_⟩; have n0_ := Aside0.mk (below_step (by repeat (first | (with_reducible first | exact HB.out | apply below_alloc | apply pw_below_drewN | apply below_drew1) | exact HB.out)) hb); clear HB; have HB := n0_; clear n0_; (try clear hb); (try clear hb2); (try clear hk); (try clear hi)) | ((with_reducible refine gate_dst (N := 10) rfl ?_); refine box_event ?hg (N := 10) ?hd (cs := #[.bool false, .int .i64 0, .int .i64 0, .bool false]) (t := 34) ?hr ?_; (case hd => rfl); (case hg => rfl); (case hr => first | (go_simp; done) | (go_simp; rfl)); intro gb202 hg w18 hbox hb; have n0_ := Aside0.mk (below_step (by repeat (first | (with_reducible first | exact HB.out | apply below_alloc | apply pw_below_drewN | apply below_drew1) | exact HB.out)) hb); have n1_ := Aside0.mk (hbox); have n2_ := Aside0.mk ((by rw [hg]; exact (below_size (by repeat (first | (with_reducible first | exact HB.out | apply below_alloc | apply pw_below_drewN | apply below_drew1) | exact HB.out))) : w.heap.size ≤ gb202)); have n3_ := Aside0.mk ((by rw [hg]; exact (below_size (by repeat (first | (with_reducible first | exact HB.out | apply below_alloc | apply pw_below_drewN | apply below_drew1) | exact HB.out))) : w.heap.size ≤ gb202)); clear HB; have HB := n0_; have BK202 := n1_; have GW202 := n2_; have GE202 := n3_; clear n0_ n1_ n2_ n3_; clear hb hbox hg; have hcz19_0 : w18.cell? ⟨gb202, 0, none⟩ = some (.bool false) := (blk_cell BK202.out 0).trans rfl; have hcz19_1 : w18.cell? ⟨gb202, 1, none⟩ = some (.int .i64 0) := (blk_cell BK202.out 1).trans rfl; have hcz19_2 : w18.cell? ⟨gb202, 2, none⟩ = some (.int .i64 0) := (blk_cell BK202.out 2).trans rfl; have hcz19_3 : w18.cell? ⟨gb202, 3, none⟩ = some (.bool false) := (blk_cell BK202.out 3).trans rfl; have hfz19_0 := blk_frozen BK202.out 0; have hfz19_1 := blk_frozen BK202.out 1; have hfz19_2 := blk_frozen BK202.out 2; have hfz19_3 := blk_frozen BK202.out 3) | ((with_reducible refine gate_callee (f := 26) rfl ?_); refine goesL_ (some 43) rfl rfl Try.func26 (by kernel_rfl) rfl #[.agg #[.bool t198, .int .i64 t199, .int .i64 t200, .bool t201]] rfl (by (try simp only [List.map_toArray, List.map_cons, List.map_nil]); first | done | rfl | (simp only [List.length_drop, List.length_take]; rfl)) ?_; (with_reducible refine (axle_Clear.calls t198 t199 t200 t201 true _ A15.out).mono ?_); rintro e w20 ⟨rfl, hb⟩; refine ⟨_, rfl, ?_⟩; have n0_ := Aside0.mk (blk_below (g := gb202) (o := .cells #[.bool t198, .int .i64 t199, .int .i64 t200, .bool t201] 34 (0, 0)) (by (with_reducible repeat (first | refine blk_drewN ?_ _ | refine blk_drew ?_ | refine blk_alloc ?_ _)); refine blk_put (cs := #[.bool t198, .int .i64 t199, .int .i64 t200, .bool false]) ?_ 3 _ rfl; (with_reducible repeat (first | refine blk_drewN ?_ _ | refine blk_drew ?_ | refine blk_alloc ?_ _)); refine blk_put (cs := #[.bool t198, .int .i64 t199, .int .i64 0, .bool false]) ?_ 2 _ rfl; (with_reducible repeat (first | refine blk_drewN ?_ _ | refine blk_drew ?_ | refine blk_alloc ?_ _)); refine blk_put (cs := #[.bool t198, .int .i64 0, .int .i64 0, .bool false]) ?_ 1 _ rfl; (with_reducible repeat (first | refine blk_drewN ?_ _ | refine blk_drew ?_ | refine blk_alloc ?_ _)); refine blk_put (cs := #[.bool false, .int .i64 0, .int .i64 0, .bool false]) ?_ 0 _ rfl; (with_reducible repeat (first | refine blk_drewN ?_ _ | refine blk_drew ?_ | refine blk_alloc ?_ _)); exact BK202.out) hb); have n1_ := Aside0.mk (below_step (by repeat (first | (with_reducible first | exact HB.out | apply below_alloc | apply pw_below_drewN | apply below_drew1 | refine below_set ?_ GE202.out) | exact HB.out)) hb); clear BK202; clear HB; have BK202 := n0_; have HB := n1_; clear n0_ n1_; (try clear hb); (try clear hb2); (try clear hk); (try clear hi)))
          go_loopg [11] kj5 (fun kq v11 w' => ∃ (x11_2 : Int) (x203000_2 : Bool) (x203001_2 : Int) (x203002_2 : Int) (x203003_2 : Bool), v11 = .int .i64 x11_2 ∧ Aside0 (crossbucklaw11_AxleClears.l0 kq a0 a1 a2 a3 t197 x11_2 x203000_2 x203001_2 x203002_2 x203003_2 = some r) ∧ Aside0 (kq ≤ kj5) ∧ Aside0 (w'.heap[gb202]? = some (.cells #[.bool x203000_2, .int .i64 x203001_2, .int .i64 x203002_2, .bool x203003_2] 34 (0, 0))) ∧ Aside0 (Below w.heap.size w w'))
          case atStart => exact ⟨(0), (t198), (t199), (t200), (t201), (by first | rfl | (simp; done) | (simp [*]; done)), H', ⟨Nat.le_refl _⟩, ⟨by (with_reducible repeat (first | refine blk_drewN ?_ _ | refine blk_drew ?_ | refine blk_alloc ?_ _)); exact BK202.out⟩, ⟨by repeat (first | (with_reducible first | exact HB.out | apply below_alloc | apply pw_below_drewN | apply below_drew1 | refine below_set ?_ GE202.out) | exact HB.out)⟩⟩
          case round =>
            clear H'
            try clear c1
            try clear c2
            try clear p2
            try clear c8
            try clear c8b0
            try clear c9
            try clear c9b0
            try clear c10
            try clear c10b0
            try clear c11
            try clear c11b0
            try clear c12
            try clear c12b0
            try clear c13
            try clear c16
            try clear hcz19_0
            try clear hcz19_1
            try clear hcz19_2
            try clear hcz19_3
            try clear hfz19_0
            try clear hfz19_1
            try clear hfz19_2
            try clear hfz19_3
            try clear p2
            obtain ⟨x11_2, x203000_2, x203001_2, x203002_2, x203003_2, rfl, HA, HK2, BK202, HB⟩ := hrel
            cases gk with
            | zero => exact absurd HA.out (by simp [crossbucklaw11_AxleClears.l0])
            | succ k2 =>
              have H := HA.out
              clear HA
              simp only [crossbucklaw11_AxleClears.l0] at H
              by_cases c21 : x11_2 < a3
              · rw [if_pos c21] at H
                have c21b0 : decide (x11_2 < a3) = true := decide_eq_true c21
                clear c21
                replace H := Option.bind_eq_some_iff.mp H
                obtain ⟨⟨t204, t205, t206, t207⟩, A220, H⟩ := H
                replace H : ((axle_Clear.f t204 t205 t206 t207).bind fun t208 => (if t208 = true then (some false) else (if t207 = true then (some false) else ((axle_On.f t204 t205 t206 t207).bind fun t209 => (if t209 = a1 then (crossbucklaw11_AxleClears.l0 k2 a0 a1 a2 a3 t197 (wrap64 (x11_2 + 1)) t204 t205 t206 t207) else (some false)))))) = some r := H
                have A22 := Aside0.mk A220
                clear A220
                replace H := Option.bind_eq_some_iff.mp H
                obtain ⟨t208, A230, H⟩ := H
                replace H : (if t208 = true then (some false) else (if t207 = true then (some false) else ((axle_On.f t204 t205 t206 t207).bind fun t209 => (if t209 = a1 then (crossbucklaw11_AxleClears.l0 k2 a0 a1 a2 a3 t197 (wrap64 (x11_2 + 1)) t204 t205 t206 t207) else (some false))))) = some r := H
                have A23 := Aside0.mk A230
                clear A230
                by_cases c24 : t208 = true
                · subst c24
                  have H1 : (some false) = some r := by rw [if_pos rfl] at H; exact H
                  clear H
                  have H := H1
                  clear H1
                  obtain rfl := Option.some.inj H
                  have hcz25_0 : wr.cell? ⟨gb202, 0, none⟩ = some (.bool x203000_2) := (blk_cell BK202.out 0).trans rfl
                  have hcz25_1 : wr.cell? ⟨gb202, 1, none⟩ = some (.int .i64 x203001_2) := (blk_cell BK202.out 1).trans rfl
                  have hcz25_2 : wr.cell? ⟨gb202, 2, none⟩ = some (.int .i64 x203002_2) := (blk_cell BK202.out 2).trans rfl
                  have hcz25_3 : wr.cell? ⟨gb202, 3, none⟩ = some (.bool x203003_2) := (blk_cell BK202.out 3).trans rfl
                  have hfz25_0 := blk_frozen BK202.out 0
                  have hfz25_1 := blk_frozen BK202.out 1
                  have hfz25_2 := blk_frozen BK202.out 2
                  have hfz25_3 := blk_frozen BK202.out 3
                  go_wp2_with (first | ((with_reducible refine gate_callee (f := 22) rfl ?_); refine goesL_ (some 55) rfl rfl Try.func22 (by kernel_rfl) rfl #[.agg #[.bool x203000_2, .int .i64 x203001_2, .int .i64 x203002_2, .bool x203003_2], .int .i64 (wrap64 (a0 + a1)), .int .i64 a0] rfl (by (try simp only [List.map_toArray, List.map_cons, List.map_nil]); first | done | rfl | (simp only [List.length_drop, List.length_take]; rfl)) ?_; (with_reducible refine (axle_Step.calls x203000_2 x203001_2 x203002_2 x203003_2 (wrap64 (a0 + a1)) a0 t204 t205 t206 t207 _ A22.out).mono ?_); rintro e w26 ⟨rfl, hb⟩; refine ⟨_, rfl, ?_⟩; have n0_ := Aside0.mk (blk_below (g := gb202) (o := .cells #[.bool x203000_2, .int .i64 x203001_2, .int .i64 x203002_2, .bool x203003_2] 34 (0, 0)) (by (with_reducible repeat (first | refine blk_drewN ?_ _ | refine blk_drew ?_ | refine blk_alloc ?_ _)); exact BK202.out) hb); have n1_ := Aside0.mk (below_step (by repeat (first | (with_reducible first | exact HB.out | apply below_alloc | apply pw_below_drewN | apply below_drew1 | refine below_set ?_ GE202.out) | exact HB.out)) hb); clear BK202; clear HB; have BK202 := n0_; have HB := n1_; clear n0_ n1_; (try clear hb); (try clear hb2); (try clear hk); (try clear hi); have hcz27_0 : w26.cell? ⟨gb202, 0, none⟩ = some (.bool x203000_2) := (blk_cell BK202.out 0).trans rfl; have hcz27_1 : w26.cell? ⟨gb202, 1, none⟩ = some (.int .i64 x203001_2) := (blk_cell BK202.out 1).trans rfl; have hcz27_2 : w26.cell? ⟨gb202, 2, none⟩ = some (.int .i64 x203002_2) := (blk_cell BK202.out 2).trans rfl; have hcz27_3 : w26.cell? ⟨gb202, 3, none⟩ = some (.bool x203003_2) := (blk_cell BK202.out 3).trans rfl; have hfz27_0 := blk_frozen BK202.out 0; have hfz27_1 := blk_frozen BK202.out 1; have hfz27_2 := blk_frozen BK202.out 2; have hfz27_3 := blk_frozen BK202.out 3) | ((with_reducible refine gate_callee (f := 26) rfl ?_); refine goesL_ (some 57) rfl rfl Try.func26 (by kernel_rfl) rfl #[.agg #[.bool t204, .int .i64 t205, .int .i64 t206, .bool t207]] rfl (by (try simp only [List.map_toArray, List.map_cons, List.map_nil]); first | done | rfl | (simp only [List.length_drop, List.length_take]; rfl)) ?_; (with_reducible refine (axle_Clear.calls t204 t205 t206 t207 true _ A23.out).mono ?_); rintro e w28 ⟨rfl, hb⟩; refine ⟨_, rfl, ?_⟩; have n0_ := Aside0.mk (blk_below (g := gb202) (o := .cells #[.bool t204, .int .i64 t205, .int .i64 t206, .bool t207] 34 (0, 0)) (by (with_reducible repeat (first | refine blk_drewN ?_ _ | refine blk_drew ?_ | refine blk_alloc ?_ _)); refine blk_put (cs := #[.bool t204, .int .i64 t205, .int .i64 t206, .bool x203003_2]) ?_ 3 _ rfl; (with_reducible repeat (first | refine blk_drewN ?_ _ | refine blk_drew ?_ | refine blk_alloc ?_ _)); refine blk_put (cs := #[.bool t204, .int .i64 t205, .int .i64 x203002_2, .bool x203003_2]) ?_ 2 _ rfl; (with_reducible repeat (first | refine blk_drewN ?_ _ | refine blk_drew ?_ | refine blk_alloc ?_ _)); refine blk_put (cs := #[.bool t204, .int .i64 x203001_2, .int .i64 x203002_2, .bool x203003_2]) ?_ 1 _ rfl; (with_reducible repeat (first | refine blk_drewN ?_ _ | refine blk_drew ?_ | refine blk_alloc ?_ _)); refine blk_put (cs := #[.bool x203000_2, .int .i64 x203001_2, .int .i64 x203002_2, .bool x203003_2]) ?_ 0 _ rfl; (with_reducible repeat (first | refine blk_drewN ?_ _ | refine blk_drew ?_ | refine blk_alloc ?_ _)); exact BK202.out) hb); have n1_ := Aside0.mk (below_step (by repeat (first | (with_reducible first | exact HB.out | apply below_alloc | apply pw_below_drewN | apply below_drew1 | refine below_set ?_ GE202.out) | exact HB.out)) hb); clear BK202; clear HB; have BK202 := n0_; have HB := n1_; clear n0_ n1_; (try clear hb); (try clear hb2); (try clear hk); (try clear hi)))
                  go_ret
                  exact ⟨by first | rfl | (simp [errW_none, errW_some] <;> rfl) | (simp [*, errW_none, errW_some] <;> rfl), by repeat (first | (with_reducible first | exact HB.out | apply below_alloc | apply pw_below_drewN | apply below_drew1 | refine below_set ?_ GE202.out) | exact HB.out)⟩
                · replace c24 := Bool.eq_false_iff.mpr c24
                  subst c24
                  have H1 : (if t207 = true then (some false) else ((axle_On.f t204 t205 t206 t207).bind fun t209 => (if t209 = a1 then (crossbucklaw11_AxleClears.l0 k2 a0 a1 a2 a3 t197 (wrap64 (x11_2 + 1)) t204 t205 t206 t207) else (some false)))) = some r := by rw [if_neg (show ¬ (false = true) by decide)] at H; exact H
                  clear H
                  have H := H1
                  clear H1
                  by_cases c29 : t207 = true
                  · subst c29
                    have H1 : (some false) = some r := by rw [if_pos rfl] at H; exact H
                    clear H
                    have H := H1
                    clear H1
                    obtain rfl := Option.some.inj H
                    have hcz30_0 : wr.cell? ⟨gb202, 0, none⟩ = some (.bool x203000_2) := (blk_cell BK202.out 0).trans rfl
                    have hcz30_1 : wr.cell? ⟨gb202, 1, none⟩ = some (.int .i64 x203001_2) := (blk_cell BK202.out 1).trans rfl
                    have hcz30_2 : wr.cell? ⟨gb202, 2, none⟩ = some (.int .i64 x203002_2) := (blk_cell BK202.out 2).trans rfl
                    have hcz30_3 : wr.cell? ⟨gb202, 3, none⟩ = some (.bool x203003_2) := (blk_cell BK202.out 3).trans rfl
                    have hfz30_0 := blk_frozen BK202.out 0
                    have hfz30_1 := blk_frozen BK202.out 1
                    have hfz30_2 := blk_frozen BK202.out 2
                    have hfz30_3 := blk_frozen BK202.out 3
                    go_wp2_with (first | ((with_reducible refine gate_callee (f := 22) rfl ?_); refine goesL_ (some 55) rfl rfl Try.func22 (by kernel_rfl) rfl #[.agg #[.bool x203000_2, .int .i64 x203001_2, .int .i64 x203002_2, .bool x203003_2], .int .i64 (wrap64 (a0 + a1)), .int .i64 a0] rfl (by (try simp only [List.map_toArray, List.map_cons, List.map_nil]); first | done | rfl | (simp only [List.length_drop, List.length_take]; rfl)) ?_; (with_reducible refine (axle_Step.calls x203000_2 x203001_2 x203002_2 x203003_2 (wrap64 (a0 + a1)) a0 t204 t205 t206 true _ A22.out).mono ?_); rintro e w31 ⟨rfl, hb⟩; refine ⟨_, rfl, ?_⟩; have n0_ := Aside0.mk (blk_below (g := gb202) (o := .cells #[.bool x203000_2, .int .i64 x203001_2, .int .i64 x203002_2, .bool x203003_2] 34 (0, 0)) (by (with_reducible repeat (first | refine blk_drewN ?_ _ | refine blk_drew ?_ | refine blk_alloc ?_ _)); exact BK202.out) hb); have n1_ := Aside0.mk (below_step (by repeat (first | (with_reducible first | exact HB.out | apply below_alloc | apply pw_below_drewN | apply below_drew1 | refine below_set ?_ GE202.out) | exact HB.out)) hb); clear BK202; clear HB; have BK202 := n0_; have HB := n1_; clear n0_ n1_; (try clear hb); (try clear hb2); (try clear hk); (try clear hi); have hcz32_0 : w31.cell? ⟨gb202, 0, none⟩ = some (.bool x203000_2) := (blk_cell BK202.out 0).trans rfl; have hcz32_1 : w31.cell? ⟨gb202, 1, none⟩ = some (.int .i64 x203001_2) := (blk_cell BK202.out 1).trans rfl; have hcz32_2 : w31.cell? ⟨gb202, 2, none⟩ = some (.int .i64 x203002_2) := (blk_cell BK202.out 2).trans rfl; have hcz32_3 : w31.cell? ⟨gb202, 3, none⟩ = some (.bool x203003_2) := (blk_cell BK202.out 3).trans rfl; have hfz32_0 := blk_frozen BK202.out 0; have hfz32_1 := blk_frozen BK202.out 1; have hfz32_2 := blk_frozen BK202.out 2; have hfz32_3 := blk_frozen BK202.out 3) | ((with_reducible refine gate_callee (f := 26) rfl ?_); refine goesL_ (some 57) rfl rfl Try.func26 (by kernel_rfl) rfl #[.agg #[.bool t204, .int .i64 t205, .int .i64 t206, .bool true]] rfl (by (try simp only [List.map_toArray, List.map_cons, List.map_nil]); first | done | rfl | (simp only [List.length_drop, List.length_take]; rfl)) ?_; (with_reducible refine (axle_Clear.calls t204 t205 t206 true false _ A23.out).mono ?_); rintro e w33 ⟨rfl, hb⟩; refine ⟨_, rfl, ?_⟩; have n0_ := Aside0.mk (blk_below (g := gb202) (o := .cells #[.bool t204, .int .i64 t205, .int .i64 t206, .bool true] 34 (0, 0)) (by (with_reducible repeat (first | refine blk_drewN ?_ _ | refine blk_drew ?_ | refine blk_alloc ?_ _)); refine blk_put (cs := #[.bool t204, .int .i64 t205, .int .i64 t206, .bool x203003_2]) ?_ 3 _ rfl; (with_reducible repeat (first | refine blk_drewN ?_ _ | refine blk_drew ?_ | refine blk_alloc ?_ _)); refine blk_put (cs := #[.bool t204, .int .i64 t205, .int .i64 x203002_2, .bool x203003_2]) ?_ 2 _ rfl; (with_reducible repeat (first | refine blk_drewN ?_ _ | refine blk_drew ?_ | refine blk_alloc ?_ _)); refine blk_put (cs := #[.bool t204, .int .i64 x203001_2, .int .i64 x203002_2, .bool x203003_2]) ?_ 1 _ rfl; (with_reducible repeat (first | refine blk_drewN ?_ _ | refine blk_drew ?_ | refine blk_alloc ?_ _)); refine blk_put (cs := #[.bool x203000_2, .int .i64 x203001_2, .int .i64 x203002_2, .bool x203003_2]) ?_ 0 _ rfl; (with_reducible repeat (first | refine blk_drewN ?_ _ | refine blk_drew ?_ | refine blk_alloc ?_ _)); exact BK202.out) hb); have n1_ := Aside0.mk (below_step (by repeat (first | (with_reducible first | exact HB.out | apply below_alloc | apply pw_below_drewN | apply below_drew1 | refine below_set ?_ GE202.out) | exact HB.out)) hb); clear BK202; clear HB; have BK202 := n0_; have HB := n1_; clear n0_ n1_; (try clear hb); (try clear hb2); (try clear hk); (try clear hi); have hcz34_0 : w33.cell? ⟨gb202, 0, none⟩ = some (.bool t204) := (blk_cell BK202.out 0).trans rfl; have hcz34_1 : w33.cell? ⟨gb202, 1, none⟩ = some (.int .i64 t205) := (blk_cell BK202.out 1).trans rfl; have hcz34_2 : w33.cell? ⟨gb202, 2, none⟩ = some (.int .i64 t206) := (blk_cell BK202.out 2).trans rfl; have hcz34_3 : w33.cell? ⟨gb202, 3, none⟩ = some (.bool true) := (blk_cell BK202.out 3).trans rfl; have hfz34_0 := blk_frozen BK202.out 0; have hfz34_1 := blk_frozen BK202.out 1; have hfz34_2 := blk_frozen BK202.out 2; have hfz34_3 := blk_frozen BK202.out 3))
                    go_ret
                    exact ⟨by first | rfl | (simp [errW_none, errW_some] <;> rfl) | (simp [*, errW_none, errW_some] <;> rfl), by repeat (first | (with_reducible first | exact HB.out | apply below_alloc | apply pw_below_drewN | apply below_drew1 | refine below_set ?_ GE202.out) | exact HB.out)⟩
                  · replace c29 := Bool.eq_false_iff.mpr c29
                    subst c29
                    have H1 : ((axle_On.f t204 t205 t206 false).bind fun t209 => (if t209 = a1 then (crossbucklaw11_AxleClears.l0 k2 a0 a1 a2 a3 t197 (wrap64 (x11_2 + 1)) t204 t205 t206 false) else (some false))) = some r := by rw [if_neg (show ¬ (false = true) by decide)] at H; exact H
                    clear H
                    have H := H1
                    clear H1
                    replace H := Option.bind_eq_some_iff.mp H
                    obtain ⟨t209, A350, H⟩ := H
                    replace H : (if t209 = a1 then (crossbucklaw11_AxleClears.l0 k2 a0 a1 a2 a3 t197 (wrap64 (x11_2 + 1)) t204 t205 t206 false) else (some false)) = some r := H
                    have A35 := Aside0.mk A350
                    clear A350
                    by_cases c36 : t209 = a1
                    · rw [if_pos c36] at H
                      have c36b0 : (t209 == a1) = true := beq_iff_eq.mpr c36
                      have c36b1 : (t209 != a1) = false := bne_eq_false_iff_eq.mpr c36
                      clear c36
                      have H' := Aside0.mk H
                      clear H
                      have hcz37_0 : wr.cell? ⟨gb202, 0, none⟩ = some (.bool x203000_2) := (blk_cell BK202.out 0).trans rfl
                      have hcz37_1 : wr.cell? ⟨gb202, 1, none⟩ = some (.int .i64 x203001_2) := (blk_cell BK202.out 1).trans rfl
                      have hcz37_2 : wr.cell? ⟨gb202, 2, none⟩ = some (.int .i64 x203002_2) := (blk_cell BK202.out 2).trans rfl
                      have hcz37_3 : wr.cell? ⟨gb202, 3, none⟩ = some (.bool x203003_2) := (blk_cell BK202.out 3).trans rfl
                      have hfz37_0 := blk_frozen BK202.out 0
                      have hfz37_1 := blk_frozen BK202.out 1
                      have hfz37_2 := blk_frozen BK202.out 2
                      have hfz37_3 := blk_frozen BK202.out 3
                      go_wp2_with (first | ((with_reducible refine gate_callee (f := 22) rfl ?_); refine goesL_ (some 55) rfl rfl Try.func22 (by kernel_rfl) rfl #[.agg #[.bool x203000_2, .int .i64 x203001_2, .int .i64 x203002_2, .bool x203003_2], .int .i64 (wrap64 (a0 + a1)), .int .i64 a0] rfl (by (try simp only [List.map_toArray, List.map_cons, List.map_nil]); first | done | rfl | (simp only [List.length_drop, List.length_take]; rfl)) ?_; (with_reducible refine (axle_Step.calls x203000_2 x203001_2 x203002_2 x203003_2 (wrap64 (a0 + a1)) a0 t204 t205 t206 false _ A22.out).mono ?_); rintro e w38 ⟨rfl, hb⟩; refine ⟨_, rfl, ?_⟩; have n0_ := Aside0.mk (blk_below (g := gb202) (o := .cells #[.bool x203000_2, .int .i64 x203001_2, .int .i64 x203002_2, .bool x203003_2] 34 (0, 0)) (by (with_reducible repeat (first | refine blk_drewN ?_ _ | refine blk_drew ?_ | refine blk_alloc ?_ _)); exact BK202.out) hb); have n1_ := Aside0.mk (below_step (by repeat (first | (with_reducible first | exact HB.out | apply below_alloc | apply pw_below_drewN | apply below_drew1 | refine below_set ?_ GE202.out) | exact HB.out)) hb); clear BK202; clear HB; have BK202 := n0_; have HB := n1_; clear n0_ n1_; (try clear hb); (try clear hb2); (try clear hk); (try clear hi); have hcz39_0 : w38.cell? ⟨gb202, 0, none⟩ = some (.bool x203000_2) := (blk_cell BK202.out 0).trans rfl; have hcz39_1 : w38.cell? ⟨gb202, 1, none⟩ = some (.int .i64 x203001_2) := (blk_cell BK202.out 1).trans rfl; have hcz39_2 : w38.cell? ⟨gb202, 2, none⟩ = some (.int .i64 x203002_2) := (blk_cell BK202.out 2).trans rfl; have hcz39_3 : w38.cell? ⟨gb202, 3, none⟩ = some (.bool x203003_2) := (blk_cell BK202.out 3).trans rfl; have hfz39_0 := blk_frozen BK202.out 0; have hfz39_1 := blk_frozen BK202.out 1; have hfz39_2 := blk_frozen BK202.out 2; have hfz39_3 := blk_frozen BK202.out 3) | ((with_reducible refine gate_callee (f := 26) rfl ?_); refine goesL_ (some 57) rfl rfl Try.func26 (by kernel_rfl) rfl #[.agg #[.bool t204, .int .i64 t205, .int .i64 t206, .bool false]] rfl (by (try simp only [List.map_toArray, List.map_cons, List.map_nil]); first | done | rfl | (simp only [List.length_drop, List.length_take]; rfl)) ?_; (with_reducible refine (axle_Clear.calls t204 t205 t206 false false _ A23.out).mono ?_); rintro e w40 ⟨rfl, hb⟩; refine ⟨_, rfl, ?_⟩; have n0_ := Aside0.mk (blk_below (g := gb202) (o := .cells #[.bool t204, .int .i64 t205, .int .i64 t206, .bool false] 34 (0, 0)) (by (with_reducible repeat (first | refine blk_drewN ?_ _ | refine blk_drew ?_ | refine blk_alloc ?_ _)); refine blk_put (cs := #[.bool t204, .int .i64 t205, .int .i64 t206, .bool x203003_2]) ?_ 3 _ rfl; (with_reducible repeat (first | refine blk_drewN ?_ _ | refine blk_drew ?_ | refine blk_alloc ?_ _)); refine blk_put (cs := #[.bool t204, .int .i64 t205, .int .i64 x203002_2, .bool x203003_2]) ?_ 2 _ rfl; (with_reducible repeat (first | refine blk_drewN ?_ _ | refine blk_drew ?_ | refine blk_alloc ?_ _)); refine blk_put (cs := #[.bool t204, .int .i64 x203001_2, .int .i64 x203002_2, .bool x203003_2]) ?_ 1 _ rfl; (with_reducible repeat (first | refine blk_drewN ?_ _ | refine blk_drew ?_ | refine blk_alloc ?_ _)); refine blk_put (cs := #[.bool x203000_2, .int .i64 x203001_2, .int .i64 x203002_2, .bool x203003_2]) ?_ 0 _ rfl; (with_reducible repeat (first | refine blk_drewN ?_ _ | refine blk_drew ?_ | refine blk_alloc ?_ _)); exact BK202.out) hb); have n1_ := Aside0.mk (below_step (by repeat (first | (with_reducible first | exact HB.out | apply below_alloc | apply pw_below_drewN | apply below_drew1 | refine below_set ?_ GE202.out) | exact HB.out)) hb); clear BK202; clear HB; have BK202 := n0_; have HB := n1_; clear n0_ n1_; (try clear hb); (try clear hb2); (try clear hk); (try clear hi); have hcz41_0 : w40.cell? ⟨gb202, 0, none⟩ = some (.bool t204) := (blk_cell BK202.out 0).trans rfl; have hcz41_1 : w40.cell? ⟨gb202, 1, none⟩ = some (.int .i64 t205) := (blk_cell BK202.out 1).trans rfl; have hcz41_2 : w40.cell? ⟨gb202, 2, none⟩ = some (.int .i64 t206) := (blk_cell BK202.out 2).trans rfl; have hcz41_3 : w40.cell? ⟨gb202, 3, none⟩ = some (.bool false) := (blk_cell BK202.out 3).trans rfl; have hfz41_0 := blk_frozen BK202.out 0; have hfz41_1 := blk_frozen BK202.out 1; have hfz41_2 := blk_frozen BK202.out 2; have hfz41_3 := blk_frozen BK202.out 3) | (go_at_call 24; (with_reducible refine (axle_On.calls t204 t205 t206 false t209 _ A35.out).mono ?_); rintro e w42 ⟨rfl, hb⟩; have n0_ := Aside0.mk (blk_below (g := gb202) (o := .cells #[.bool t204, .int .i64 t205, .int .i64 t206, .bool false] 34 (0, 0)) (by (with_reducible repeat (first | refine blk_drewN ?_ _ | refine blk_drew ?_ | refine blk_alloc ?_ _)); exact BK202.out) hb); have n1_ := Aside0.mk (below_step (by repeat (first | (with_reducible first | exact HB.out | apply below_alloc | apply pw_below_drewN | apply below_drew1 | refine below_set ?_ GE202.out) | exact HB.out)) hb); clear BK202; clear HB; have BK202 := n0_; have HB := n1_; clear n0_ n1_; (try clear hb); (try clear hb2); (try clear hk); (try clear hi)))
                      go_roundg k2
                      case measure => have := HJ5.out; have := HK2.out; omega
                      case rel => exact ⟨(wrap64 (x11_2 + 1)), (t204), (t205), (t206), (false), (by first | rfl | (simp; done) | (simp [*]; done)), H', ⟨by have := HJ5.out; have := HK2.out; omega⟩, ⟨by (with_reducible repeat (first | refine blk_drewN ?_ _ | refine blk_drew ?_ | refine blk_alloc ?_ _)); exact BK202.out⟩, ⟨by repeat (first | (with_reducible first | exact HB.out | apply below_alloc | apply pw_below_drewN | apply below_drew1 | refine below_set ?_ GE202.out) | exact HB.out)⟩⟩
                    · rw [if_neg c36] at H
                      have c36b0 : (t209 == a1) = false := beq_eq_false_iff_ne.mpr c36
                      have c36b1 : (t209 != a1) = true := bne_iff_ne.mpr c36
                      obtain rfl := Option.some.inj H
                      have hcz43_0 : wr.cell? ⟨gb202, 0, none⟩ = some (.bool x203000_2) := (blk_cell BK202.out 0).trans rfl
                      have hcz43_1 : wr.cell? ⟨gb202, 1, none⟩ = some (.int .i64 x203001_2) := (blk_cell BK202.out 1).trans rfl
                      have hcz43_2 : wr.cell? ⟨gb202, 2, none⟩ = some (.int .i64 x203002_2) := (blk_cell BK202.out 2).trans rfl
                      have hcz43_3 : wr.cell? ⟨gb202, 3, none⟩ = some (.bool x203003_2) := (blk_cell BK202.out 3).trans rfl
                      have hfz43_0 := blk_frozen BK202.out 0
                      have hfz43_1 := blk_frozen BK202.out 1
                      have hfz43_2 := blk_frozen BK202.out 2
                      have hfz43_3 := blk_frozen BK202.out 3
                      go_wp2_with (first | ((with_reducible refine gate_callee (f := 22) rfl ?_); refine goesL_ (some 55) rfl rfl Try.func22 (by kernel_rfl) rfl #[.agg #[.bool x203000_2, .int .i64 x203001_2, .int .i64 x203002_2, .bool x203003_2], .int .i64 (wrap64 (a0 + a1)), .int .i64 a0] rfl (by (try simp only [List.map_toArray, List.map_cons, List.map_nil]); first | done | rfl | (simp only [List.length_drop, List.length_take]; rfl)) ?_; (with_reducible refine (axle_Step.calls x203000_2 x203001_2 x203002_2 x203003_2 (wrap64 (a0 + a1)) a0 t204 t205 t206 false _ A22.out).mono ?_); rintro e w44 ⟨rfl, hb⟩; refine ⟨_, rfl, ?_⟩; have n0_ := Aside0.mk (blk_below (g := gb202) (o := .cells #[.bool x203000_2, .int .i64 x203001_2, .int .i64 x203002_2, .bool x203003_2] 34 (0, 0)) (by (with_reducible repeat (first | refine blk_drewN ?_ _ | refine blk_drew ?_ | refine blk_alloc ?_ _)); exact BK202.out) hb); have n1_ := Aside0.mk (below_step (by repeat (first | (with_reducible first | exact HB.out | apply below_alloc | apply pw_below_drewN | apply below_drew1 | refine below_set ?_ GE202.out) | exact HB.out)) hb); clear BK202; clear HB; have BK202 := n0_; have HB := n1_; clear n0_ n1_; (try clear hb); (try clear hb2); (try clear hk); (try clear hi); have hcz45_0 : w44.cell? ⟨gb202, 0, none⟩ = some (.bool x203000_2) := (blk_cell BK202.out 0).trans rfl; have hcz45_1 : w44.cell? ⟨gb202, 1, none⟩ = some (.int .i64 x203001_2) := (blk_cell BK202.out 1).trans rfl; have hcz45_2 : w44.cell? ⟨gb202, 2, none⟩ = some (.int .i64 x203002_2) := (blk_cell BK202.out 2).trans rfl; have hcz45_3 : w44.cell? ⟨gb202, 3, none⟩ = some (.bool x203003_2) := (blk_cell BK202.out 3).trans rfl; have hfz45_0 := blk_frozen BK202.out 0; have hfz45_1 := blk_frozen BK202.out 1; have hfz45_2 := blk_frozen BK202.out 2; have hfz45_3 := blk_frozen BK202.out 3) | ((with_reducible refine gate_callee (f := 26) rfl ?_); refine goesL_ (some 57) rfl rfl Try.func26 (by kernel_rfl) rfl #[.agg #[.bool t204, .int .i64 t205, .int .i64 t206, .bool false]] rfl (by (try simp only [List.map_toArray, List.map_cons, List.map_nil]); first | done | rfl | (simp only [List.length_drop, List.length_take]; rfl)) ?_; (with_reducible refine (axle_Clear.calls t204 t205 t206 false false _ A23.out).mono ?_); rintro e w46 ⟨rfl, hb⟩; refine ⟨_, rfl, ?_⟩; have n0_ := Aside0.mk (blk_below (g := gb202) (o := .cells #[.bool t204, .int .i64 t205, .int .i64 t206, .bool false] 34 (0, 0)) (by (with_reducible repeat (first | refine blk_drewN ?_ _ | refine blk_drew ?_ | refine blk_alloc ?_ _)); refine blk_put (cs := #[.bool t204, .int .i64 t205, .int .i64 t206, .bool x203003_2]) ?_ 3 _ rfl; (with_reducible repeat (first | refine blk_drewN ?_ _ | refine blk_drew ?_ | refine blk_alloc ?_ _)); refine blk_put (cs := #[.bool t204, .int .i64 t205, .int .i64 x203002_2, .bool x203003_2]) ?_ 2 _ rfl; (with_reducible repeat (first | refine blk_drewN ?_ _ | refine blk_drew ?_ | refine blk_alloc ?_ _)); refine blk_put (cs := #[.bool t204, .int .i64 x203001_2, .int .i64 x203002_2, .bool x203003_2]) ?_ 1 _ rfl; (with_reducible repeat (first | refine blk_drewN ?_ _ | refine blk_drew ?_ | refine blk_alloc ?_ _)); refine blk_put (cs := #[.bool x203000_2, .int .i64 x203001_2, .int .i64 x203002_2, .bool x203003_2]) ?_ 0 _ rfl; (with_reducible repeat (first | refine blk_drewN ?_ _ | refine blk_drew ?_ | refine blk_alloc ?_ _)); exact BK202.out) hb); have n1_ := Aside0.mk (below_step (by repeat (first | (with_reducible first | exact HB.out | apply below_alloc | apply pw_below_drewN | apply below_drew1 | refine below_set ?_ GE202.out) | exact HB.out)) hb); clear BK202; clear HB; have BK202 := n0_; have HB := n1_; clear n0_ n1_; (try clear hb); (try clear hb2); (try clear hk); (try clear hi); have hcz47_0 : w46.cell? ⟨gb202, 0, none⟩ = some (.bool t204) := (blk_cell BK202.out 0).trans rfl; have hcz47_1 : w46.cell? ⟨gb202, 1, none⟩ = some (.int .i64 t205) := (blk_cell BK202.out 1).trans rfl; have hcz47_2 : w46.cell? ⟨gb202, 2, none⟩ = some (.int .i64 t206) := (blk_cell BK202.out 2).trans rfl; have hcz47_3 : w46.cell? ⟨gb202, 3, none⟩ = some (.bool false) := (blk_cell BK202.out 3).trans rfl; have hfz47_0 := blk_frozen BK202.out 0; have hfz47_1 := blk_frozen BK202.out 1; have hfz47_2 := blk_frozen BK202.out 2; have hfz47_3 := blk_frozen BK202.out 3) | (go_at_call 24; (with_reducible refine (axle_On.calls t204 t205 t206 false t209 _ A35.out).mono ?_); rintro e w48 ⟨rfl, hb⟩; have n0_ := Aside0.mk (blk_below (g := gb202) (o := .cells #[.bool t204, .int .i64 t205, .int .i64 t206, .bool false] 34 (0, 0)) (by (with_reducible repeat (first | refine blk_drewN ?_ _ | refine blk_drew ?_ | refine blk_alloc ?_ _)); exact BK202.out) hb); have n1_ := Aside0.mk (below_step (by repeat (first | (with_reducible first | exact HB.out | apply below_alloc | apply pw_below_drewN | apply below_drew1 | refine below_set ?_ GE202.out) | exact HB.out)) hb); clear BK202; clear HB; have BK202 := n0_; have HB := n1_; clear n0_ n1_; (try clear hb); (try clear hb2); (try clear hk); (try clear hi)))
                      go_ret
                      exact ⟨by first | rfl | (simp [errW_none, errW_some] <;> rfl) | (simp [*, errW_none, errW_some] <;> rfl), by repeat (first | (with_reducible first | exact HB.out | apply below_alloc | apply pw_below_drewN | apply below_drew1 | refine below_set ?_ GE202.out) | exact HB.out)⟩
              · rw [if_neg c21] at H
                have c21b0 : decide (x11_2 < a3) = false := decide_eq_false c21
                clear c21
                have H' := Aside0.mk H
                clear H
                go_wp2
                go_loopg [12] k2 (fun kq v12 w' => ∃ (x12_3 : Int) (x203000_3 : Bool) (x203001_3 : Int) (x203002_3 : Int) (x203003_3 : Bool), v12 = .int .i64 x12_3 ∧ Aside0 (crossbucklaw11_AxleClears.l1 kq a0 a1 a2 a3 t197 x12_3 x203000_3 x203001_3 x203002_3 x203003_3 = some r) ∧ Aside0 (kq ≤ k2) ∧ Aside0 (w'.heap[gb202]? = some (.cells #[.bool x203000_3, .int .i64 x203001_3, .int .i64 x203002_3, .bool x203003_3] 34 (0, 0))) ∧ Aside0 (Below w.heap.size w w'))
                case atStart => exact ⟨(0), (x203000_2), (x203001_2), (x203002_2), (x203003_2), (by first | rfl | (simp; done) | (simp [*]; done)), H', ⟨Nat.le_refl _⟩, ⟨by (with_reducible repeat (first | refine blk_drewN ?_ _ | refine blk_drew ?_ | refine blk_alloc ?_ _)); exact BK202.out⟩, ⟨by repeat (first | (with_reducible first | exact HB.out | apply below_alloc | apply pw_below_drewN | apply below_drew1 | refine below_set ?_ GE202.out) | exact HB.out)⟩⟩
                case round =>
                  clear H'
                  try clear c1
                  try clear c2
                  try clear p2
                  try clear c3
                  try clear p6
                  try clear c8
                  try clear c8b0
                  try clear c9
                  try clear c9b0
                  try clear c10
                  try clear c10b0
                  try clear c11
                  try clear c11b0
                  try clear c12
                  try clear c12b0
                  try clear c13
                  try clear c16
                  try clear c21
                  try clear c21b0
                  try clear c22
                  try clear c24
                  try clear c26
                  try clear c29
                  try clear c36
                  try clear c36b0
                  try clear c36b1
                  try clear hcz19_0
                  try clear hcz19_1
                  try clear hcz19_2
                  try clear hcz19_3
                  try clear hcz25_0
                  try clear hcz25_1
                  try clear hcz25_2
                  try clear hcz25_3
                  try clear hcz27_0
                  try clear hcz27_1
                  try clear hcz27_2
                  try clear hcz27_3
                  try clear hcz30_0
                  try clear hcz30_1
                  try clear hcz30_2
                  try clear hcz30_3
                  try clear hcz32_0
                  try clear hcz32_1
                  try clear hcz32_2
                  try clear hcz32_3
                  try clear hcz34_0
                  try clear hcz34_1
                  try clear hcz34_2
                  try clear hcz34_3
                  try clear hcz37_0
                  try clear hcz37_1
                  try clear hcz37_2
                  try clear hcz37_3
                  try clear hcz39_0
                  try clear hcz39_1
                  try clear hcz39_2
                  try clear hcz39_3
                  try clear hcz41_0
                  try clear hcz41_1
                  try clear hcz41_2
                  try clear hcz41_3
                  try clear hcz43_0
                  try clear hcz43_1
                  try clear hcz43_2
                  try clear hcz43_3
                  try clear hcz45_0
                  try clear hcz45_1
                  try clear hcz45_2
                  try clear hcz45_3
                  try clear hcz47_0
                  try clear hcz47_1
                  try clear hcz47_2
                  try clear hcz47_3
                  try clear hfz19_0
                  try clear hfz19_1
                  try clear hfz19_2
                  try clear hfz19_3
                  try clear hfz25_0
                  try clear hfz25_1
                  try clear hfz25_2
                  try clear hfz25_3
                  try clear hfz27_0
                  try clear hfz27_1
                  try clear hfz27_2
                  try clear hfz27_3
                  try clear hfz30_0
                  try clear hfz30_1
                  try clear hfz30_2
                  try clear hfz30_3
                  try clear hfz32_0
                  try clear hfz32_1
                  try clear hfz32_2
                  try clear hfz32_3
                  try clear hfz34_0
                  try clear hfz34_1
                  try clear hfz34_2
                  try clear hfz34_3
                  try clear hfz37_0
                  try clear hfz37_1
                  try clear hfz37_2
                  try clear hfz37_3
                  try clear hfz39_0
                  try clear hfz39_1
                  try clear hfz39_2
                  try clear hfz39_3
                  try clear hfz41_0
                  try clear hfz41_1
                  try clear hfz41_2
                  try clear hfz41_3
                  try clear hfz43_0
                  try clear hfz43_1
                  try clear hfz43_2
                  try clear hfz43_3
                  try clear hfz45_0
                  try clear hfz45_1
                  try clear hfz45_2
                  try clear hfz45_3
                  try clear hfz47_0
                  try clear hfz47_1
                  try clear hfz47_2
                  try clear hfz47_3
                  try clear p2
                  obtain ⟨x12_3, x203000_3, x203001_3, x203002_3, x203003_3, rfl, HA, HK3, BK202, HB⟩ := hrel
                  cases gk with
                  | zero => exact absurd HA.out (by simp [crossbucklaw11_AxleClears.l1])
                  | succ k3 =>
                    have H := HA.out
                    clear HA
                    simp only [crossbucklaw11_AxleClears.l1] at H
                    by_cases c49 : x12_3 < a3
                    · rw [if_pos c49] at H
                      have c49b0 : decide (x12_3 < a3) = true := decide_eq_true c49
                      clear c49
                      replace H := Option.bind_eq_some_iff.mp H
                      obtain ⟨⟨t215, t216, t217, t218⟩, A500, H⟩ := H
                      replace H : ((axle_Clear.f t215 t216 t217 t218).bind fun t219 => (if t219 = true then (some false) else (if t218 = true then (some false) else ((axle_On.f t215 t216 t217 t218).bind fun t220 => (if t220 = (wrap64 (a1 - a2)) then (crossbucklaw11_AxleClears.l1 k3 a0 a1 a2 a3 t197 (wrap64 (x12_3 + 1)) t215 t216 t217 t218) else (some false)))))) = some r := H
                      have A50 := Aside0.mk A500
                      clear A500
                      replace H := Option.bind_eq_some_iff.mp H
                      obtain ⟨t219, A510, H⟩ := H
                      replace H : (if t219 = true then (some false) else (if t218 = true then (some false) else ((axle_On.f t215 t216 t217 t218).bind fun t220 => (if t220 = (wrap64 (a1 - a2)) then (crossbucklaw11_AxleClears.l1 k3 a0 a1 a2 a3 t197 (wrap64 (x12_3 + 1)) t215 t216 t217 t218) else (some false))))) = some r := H
                      have A51 := Aside0.mk A510
                      clear A510
                      by_cases c52 : t219 = true
                      · subst c52
                        have H1 : (some false) = some r := by rw [if_pos rfl] at H; exact H
                        clear H
                        have H := H1
                        clear H1
                        obtain rfl := Option.some.inj H
                        have hcz53_0 : wr.cell? ⟨gb202, 0, none⟩ = some (.bool x203000_3) := (blk_cell BK202.out 0).trans rfl
                        have hcz53_1 : wr.cell? ⟨gb202, 1, none⟩ = some (.int .i64 x203001_3) := (blk_cell BK202.out 1).trans rfl
                        have hcz53_2 : wr.cell? ⟨gb202, 2, none⟩ = some (.int .i64 x203002_3) := (blk_cell BK202.out 2).trans rfl
                        have hcz53_3 : wr.cell? ⟨gb202, 3, none⟩ = some (.bool x203003_3) := (blk_cell BK202.out 3).trans rfl
                        have hfz53_0 := blk_frozen BK202.out 0
                        have hfz53_1 := blk_frozen BK202.out 1
                        have hfz53_2 := blk_frozen BK202.out 2
                        have hfz53_3 := blk_frozen BK202.out 3
                        go_wp2_with (first | ((with_reducible refine gate_callee (f := 22) rfl ?_); refine goesL_ (some 80) rfl rfl Try.func22 (by kernel_rfl) rfl #[.agg #[.bool x203000_3, .int .i64 x203001_3, .int .i64 x203002_3, .bool x203003_3], .int .i64 (wrap64 (a0 + a1)), .int .i64 (wrap64 (a0 + a2))] rfl (by (try simp only [List.map_toArray, List.map_cons, List.map_nil]); first | done | rfl | (simp only [List.length_drop, List.length_take]; rfl)) ?_; (with_reducible refine (axle_Step.calls x203000_3 x203001_3 x203002_3 x203003_3 (wrap64 (a0 + a1)) (wrap64 (a0 + a2)) t215 t216 t217 t218 _ A50.out).mono ?_); rintro e w54 ⟨rfl, hb⟩; refine ⟨_, rfl, ?_⟩; have n0_ := Aside0.mk (blk_below (g := gb202) (o := .cells #[.bool x203000_3, .int .i64 x203001_3, .int .i64 x203002_3, .bool x203003_3] 34 (0, 0)) (by (with_reducible repeat (first | refine blk_drewN ?_ _ | refine blk_drew ?_ | refine blk_alloc ?_ _)); exact BK202.out) hb); have n1_ := Aside0.mk (below_step (by repeat (first | (with_reducible first | exact HB.out | apply below_alloc | apply pw_below_drewN | apply below_drew1 | refine below_set ?_ GE202.out) | exact HB.out)) hb); clear BK202; clear HB; have BK202 := n0_; have HB := n1_; clear n0_ n1_; (try clear hb); (try clear hb2); (try clear hk); (try clear hi); have hcz55_0 : w54.cell? ⟨gb202, 0, none⟩ = some (.bool x203000_3) := (blk_cell BK202.out 0).trans rfl; have hcz55_1 : w54.cell? ⟨gb202, 1, none⟩ = some (.int .i64 x203001_3) := (blk_cell BK202.out 1).trans rfl; have hcz55_2 : w54.cell? ⟨gb202, 2, none⟩ = some (.int .i64 x203002_3) := (blk_cell BK202.out 2).trans rfl; have hcz55_3 : w54.cell? ⟨gb202, 3, none⟩ = some (.bool x203003_3) := (blk_cell BK202.out 3).trans rfl; have hfz55_0 := blk_frozen BK202.out 0; have hfz55_1 := blk_frozen BK202.out 1; have hfz55_2 := blk_frozen BK202.out 2; have hfz55_3 := blk_frozen BK202.out 3) | ((with_reducible refine gate_callee (f := 26) rfl ?_); refine goesL_ (some 82) rfl rfl Try.func26 (by kernel_rfl) rfl #[.agg #[.bool t215, .int .i64 t216, .int .i64 t217, .bool t218]] rfl (by (try simp only [List.map_toArray, List.map_cons, List.map_nil]); first | done | rfl | (simp only [List.length_drop, List.length_take]; rfl)) ?_; (with_reducible refine (axle_Clear.calls t215 t216 t217 t218 true _ A51.out).mono ?_); rintro e w56 ⟨rfl, hb⟩; refine ⟨_, rfl, ?_⟩; have n0_ := Aside0.mk (blk_below (g := gb202) (o := .cells #[.bool t215, .int .i64 t216, .int .i64 t217, .bool t218] 34 (0, 0)) (by (with_reducible repeat (first | refine blk_drewN ?_ _ | refine blk_drew ?_ | refine blk_alloc ?_ _)); refine blk_put (cs := #[.bool t215, .int .i64 t216, .int .i64 t217, .bool x203003_3]) ?_ 3 _ rfl; (with_reducible repeat (first | refine blk_drewN ?_ _ | refine blk_drew ?_ | refine blk_alloc ?_ _)); refine blk_put (cs := #[.bool t215, .int .i64 t216, .int .i64 x203002_3, .bool x203003_3]) ?_ 2 _ rfl; (with_reducible repeat (first | refine blk_drewN ?_ _ | refine blk_drew ?_ | refine blk_alloc ?_ _)); refine blk_put (cs := #[.bool t215, .int .i64 x203001_3, .int .i64 x203002_3, .bool x203003_3]) ?_ 1 _ rfl; (with_reducible repeat (first | refine blk_drewN ?_ _ | refine blk_drew ?_ | refine blk_alloc ?_ _)); refine blk_put (cs := #[.bool x203000_3, .int .i64 x203001_3, .int .i64 x203002_3, .bool x203003_3]) ?_ 0 _ rfl; (with_reducible repeat (first | refine blk_drewN ?_ _ | refine blk_drew ?_ | refine blk_alloc ?_ _)); exact BK202.out) hb); have n1_ := Aside0.mk (below_step (by repeat (first | (with_reducible first | exact HB.out | apply below_alloc | apply pw_below_drewN | apply below_drew1 | refine below_set ?_ GE202.out) | exact HB.out)) hb); clear BK202; clear HB; have BK202 := n0_; have HB := n1_; clear n0_ n1_; (try clear hb); (try clear hb2); (try clear hk); (try clear hi)))
                        go_ret
                        exact ⟨by first | rfl | (simp [errW_none, errW_some] <;> rfl) | (simp [*, errW_none, errW_some] <;> rfl), by repeat (first | (with_reducible first | exact HB.out | apply below_alloc | apply pw_below_drewN | apply below_drew1 | refine below_set ?_ GE202.out) | exact HB.out)⟩
                      · replace c52 := Bool.eq_false_iff.mpr c52
                        subst c52
                        have H1 : (if t218 = true then (some false) else ((axle_On.f t215 t216 t217 t218).bind fun t220 => (if t220 = (wrap64 (a1 - a2)) then (crossbucklaw11_AxleClears.l1 k3 a0 a1 a2 a3 t197 (wrap64 (x12_3 + 1)) t215 t216 t217 t218) else (some false)))) = some r := by rw [if_neg (show ¬ (false = true) by decide)] at H; exact H
                        clear H
                        have H := H1
                        clear H1
                        by_cases c57 : t218 = true
                        · subst c57
                          have H1 : (some false) = some r := by rw [if_pos rfl] at H; exact H
                          clear H
                          have H := H1
                          clear H1
                          obtain rfl := Option.some.inj H
                          have hcz58_0 : wr.cell? ⟨gb202, 0, none⟩ = some (.bool x203000_3) := (blk_cell BK202.out 0).trans rfl
                          have hcz58_1 : wr.cell? ⟨gb202, 1, none⟩ = some (.int .i64 x203001_3) := (blk_cell BK202.out 1).trans rfl
                          have hcz58_2 : wr.cell? ⟨gb202, 2, none⟩ = some (.int .i64 x203002_3) := (blk_cell BK202.out 2).trans rfl
                          have hcz58_3 : wr.cell? ⟨gb202, 3, none⟩ = some (.bool x203003_3) := (blk_cell BK202.out 3).trans rfl
                          have hfz58_0 := blk_frozen BK202.out 0
                          have hfz58_1 := blk_frozen BK202.out 1
                          have hfz58_2 := blk_frozen BK202.out 2
                          have hfz58_3 := blk_frozen BK202.out 3
                          go_wp2_with (first | ((with_reducible refine gate_callee (f := 22) rfl ?_); refine goesL_ (some 80) rfl rfl Try.func22 (by kernel_rfl) rfl #[.agg #[.bool x203000_3, .int .i64 x203001_3, .int .i64 x203002_3, .bool x203003_3], .int .i64 (wrap64 (a0 + a1)), .int .i64 (wrap64 (a0 + a2))] rfl (by (try simp only [List.map_toArray, List.map_cons, List.map_nil]); first | done | rfl | (simp only [List.length_drop, List.length_take]; rfl)) ?_; (with_reducible refine (axle_Step.calls x203000_3 x203001_3 x203002_3 x203003_3 (wrap64 (a0 + a1)) (wrap64 (a0 + a2)) t215 t216 t217 true _ A50.out).mono ?_); rintro e w59 ⟨rfl, hb⟩; refine ⟨_, rfl, ?_⟩; have n0_ := Aside0.mk (blk_below (g := gb202) (o := .cells #[.bool x203000_3, .int .i64 x203001_3, .int .i64 x203002_3, .bool x203003_3] 34 (0, 0)) (by (with_reducible repeat (first | refine blk_drewN ?_ _ | refine blk_drew ?_ | refine blk_alloc ?_ _)); exact BK202.out) hb); have n1_ := Aside0.mk (below_step (by repeat (first | (with_reducible first | exact HB.out | apply below_alloc | apply pw_below_drewN | apply below_drew1 | refine below_set ?_ GE202.out) | exact HB.out)) hb); clear BK202; clear HB; have BK202 := n0_; have HB := n1_; clear n0_ n1_; (try clear hb); (try clear hb2); (try clear hk); (try clear hi); have hcz60_0 : w59.cell? ⟨gb202, 0, none⟩ = some (.bool x203000_3) := (blk_cell BK202.out 0).trans rfl; have hcz60_1 : w59.cell? ⟨gb202, 1, none⟩ = some (.int .i64 x203001_3) := (blk_cell BK202.out 1).trans rfl; have hcz60_2 : w59.cell? ⟨gb202, 2, none⟩ = some (.int .i64 x203002_3) := (blk_cell BK202.out 2).trans rfl; have hcz60_3 : w59.cell? ⟨gb202, 3, none⟩ = some (.bool x203003_3) := (blk_cell BK202.out 3).trans rfl; have hfz60_0 := blk_frozen BK202.out 0; have hfz60_1 := blk_frozen BK202.out 1; have hfz60_2 := blk_frozen BK202.out 2; have hfz60_3 := blk_frozen BK202.out 3) | ((with_reducible refine gate_callee (f := 26) rfl ?_); refine goesL_ (some 82) rfl rfl Try.func26 (by kernel_rfl) rfl #[.agg #[.bool t215, .int .i64 t216, .int .i64 t217, .bool true]] rfl (by (try simp only [List.map_toArray, List.map_cons, List.map_nil]); first | done | rfl | (simp only [List.length_drop, List.length_take]; rfl)) ?_; (with_reducible refine (axle_Clear.calls t215 t216 t217 true false _ A51.out).mono ?_); rintro e w61 ⟨rfl, hb⟩; refine ⟨_, rfl, ?_⟩; have n0_ := Aside0.mk (blk_below (g := gb202) (o := .cells #[.bool t215, .int .i64 t216, .int .i64 t217, .bool true] 34 (0, 0)) (by (with_reducible repeat (first | refine blk_drewN ?_ _ | refine blk_drew ?_ | refine blk_alloc ?_ _)); refine blk_put (cs := #[.bool t215, .int .i64 t216, .int .i64 t217, .bool x203003_3]) ?_ 3 _ rfl; (with_reducible repeat (first | refine blk_drewN ?_ _ | refine blk_drew ?_ | refine blk_alloc ?_ _)); refine blk_put (cs := #[.bool t215, .int .i64 t216, .int .i64 x203002_3, .bool x203003_3]) ?_ 2 _ rfl; (with_reducible repeat (first | refine blk_drewN ?_ _ | refine blk_drew ?_ | refine blk_alloc ?_ _)); refine blk_put (cs := #[.bool t215, .int .i64 x203001_3, .int .i64 x203002_3, .bool x203003_3]) ?_ 1 _ rfl; (with_reducible repeat (first | refine blk_drewN ?_ _ | refine blk_drew ?_ | refine blk_alloc ?_ _)); refine blk_put (cs := #[.bool x203000_3, .int .i64 x203001_3, .int .i64 x203002_3, .bool x203003_3]) ?_ 0 _ rfl; (with_reducible repeat (first | refine blk_drewN ?_ _ | refine blk_drew ?_ | refine blk_alloc ?_ _)); exact BK202.out) hb); have n1_ := Aside0.mk (below_step (by repeat (first | (with_reducible first | exact HB.out | apply below_alloc | apply pw_below_drewN | apply below_drew1 | refine below_set ?_ GE202.out) | exact HB.out)) hb); clear BK202; clear HB; have BK202 := n0_; have HB := n1_; clear n0_ n1_; (try clear hb); (try clear hb2); (try clear hk); (try clear hi); have hcz62_0 : w61.cell? ⟨gb202, 0, none⟩ = some (.bool t215) := (blk_cell BK202.out 0).trans rfl; have hcz62_1 : w61.cell? ⟨gb202, 1, none⟩ = some (.int .i64 t216) := (blk_cell BK202.out 1).trans rfl; have hcz62_2 : w61.cell? ⟨gb202, 2, none⟩ = some (.int .i64 t217) := (blk_cell BK202.out 2).trans rfl; have hcz62_3 : w61.cell? ⟨gb202, 3, none⟩ = some (.bool true) := (blk_cell BK202.out 3).trans rfl; have hfz62_0 := blk_frozen BK202.out 0; have hfz62_1 := blk_frozen BK202.out 1; have hfz62_2 := blk_frozen BK202.out 2; have hfz62_3 := blk_frozen BK202.out 3))
                          go_ret
                          exact ⟨by first | rfl | (simp [errW_none, errW_some] <;> rfl) | (simp [*, errW_none, errW_some] <;> rfl), by repeat (first | (with_reducible first | exact HB.out | apply below_alloc | apply pw_below_drewN | apply below_drew1 | refine below_set ?_ GE202.out) | exact HB.out)⟩
                        · replace c57 := Bool.eq_false_iff.mpr c57
                          subst c57
                          have H1 : ((axle_On.f t215 t216 t217 false).bind fun t220 => (if t220 = (wrap64 (a1 - a2)) then (crossbucklaw11_AxleClears.l1 k3 a0 a1 a2 a3 t197 (wrap64 (x12_3 + 1)) t215 t216 t217 false) else (some false))) = some r := by rw [if_neg (show ¬ (false = true) by decide)] at H; exact H
                          clear H
                          have H := H1
                          clear H1
                          replace H := Option.bind_eq_some_iff.mp H
                          obtain ⟨t220, A630, H⟩ := H
                          replace H : (if t220 = (wrap64 (a1 - a2)) then (crossbucklaw11_AxleClears.l1 k3 a0 a1 a2 a3 t197 (wrap64 (x12_3 + 1)) t215 t216 t217 false) else (some false)) = some r := H
                          have A63 := Aside0.mk A630
                          clear A630
                          by_cases c64 : t220 = (wrap64 (a1 - a2))
                          · rw [if_pos c64] at H
                            have c64b0 : (t220 == (wrap64 (a1 - a2))) = true := beq_iff_eq.mpr c64
                            have c64b1 : (t220 != (wrap64 (a1 - a2))) = false := bne_eq_false_iff_eq.mpr c64
                            clear c64
                            have H' := Aside0.mk H
                            clear H
                            have hcz65_0 : wr.cell? ⟨gb202, 0, none⟩ = some (.bool x203000_3) := (blk_cell BK202.out 0).trans rfl
                            have hcz65_1 : wr.cell? ⟨gb202, 1, none⟩ = some (.int .i64 x203001_3) := (blk_cell BK202.out 1).trans rfl
                            have hcz65_2 : wr.cell? ⟨gb202, 2, none⟩ = some (.int .i64 x203002_3) := (blk_cell BK202.out 2).trans rfl
                            have hcz65_3 : wr.cell? ⟨gb202, 3, none⟩ = some (.bool x203003_3) := (blk_cell BK202.out 3).trans rfl
                            have hfz65_0 := blk_frozen BK202.out 0
                            have hfz65_1 := blk_frozen BK202.out 1
                            have hfz65_2 := blk_frozen BK202.out 2
                            have hfz65_3 := blk_frozen BK202.out 3
                            go_wp2_with (first | ((with_reducible refine gate_callee (f := 22) rfl ?_); refine goesL_ (some 80) rfl rfl Try.func22 (by kernel_rfl) rfl #[.agg #[.bool x203000_3, .int .i64 x203001_3, .int .i64 x203002_3, .bool x203003_3], .int .i64 (wrap64 (a0 + a1)), .int .i64 (wrap64 (a0 + a2))] rfl (by (try simp only [List.map_toArray, List.map_cons, List.map_nil]); first | done | rfl | (simp only [List.length_drop, List.length_take]; rfl)) ?_; (with_reducible refine (axle_Step.calls x203000_3 x203001_3 x203002_3 x203003_3 (wrap64 (a0 + a1)) (wrap64 (a0 + a2)) t215 t216 t217 false _ A50.out).mono ?_); rintro e w66 ⟨rfl, hb⟩; refine ⟨_, rfl, ?_⟩; have n0_ := Aside0.mk (blk_below (g := gb202) (o := .cells #[.bool x203000_3, .int .i64 x203001_3, .int .i64 x203002_3, .bool x203003_3] 34 (0, 0)) (by (with_reducible repeat (first | refine blk_drewN ?_ _ | refine blk_drew ?_ | refine blk_alloc ?_ _)); exact BK202.out) hb); have n1_ := Aside0.mk (below_step (by repeat (first | (with_reducible first | exact HB.out | apply below_alloc | apply pw_below_drewN | apply below_drew1 | refine below_set ?_ GE202.out) | exact HB.out)) hb); clear BK202; clear HB; have BK202 := n0_; have HB := n1_; clear n0_ n1_; (try clear hb); (try clear hb2); (try clear hk); (try clear hi); have hcz67_0 : w66.cell? ⟨gb202, 0, none⟩ = some (.bool x203000_3) := (blk_cell BK202.out 0).trans rfl; have hcz67_1 : w66.cell? ⟨gb202, 1, none⟩ = some (.int .i64 x203001_3) := (blk_cell BK202.out 1).trans rfl; have hcz67_2 : w66.cell? ⟨gb202, 2, none⟩ = some (.int .i64 x203002_3) := (blk_cell BK202.out 2).trans rfl; have hcz67_3 : w66.cell? ⟨gb202, 3, none⟩ = some (.bool x203003_3) := (blk_cell BK202.out 3).trans rfl; have hfz67_0 := blk_frozen BK202.out 0; have hfz67_1 := blk_frozen BK202.out 1; have hfz67_2 := blk_frozen BK202.out 2; have hfz67_3 := blk_frozen BK202.out 3) | ((with_reducible refine gate_callee (f := 26) rfl ?_); refine goesL_ (some 82) rfl rfl Try.func26 (by kernel_rfl) rfl #[.agg #[.bool t215, .int .i64 t216, .int .i64 t217, .bool false]] rfl (by (try simp only [List.map_toArray, List.map_cons, List.map_nil]); first | done | rfl | (simp only [List.length_drop, List.length_take]; rfl)) ?_; (with_reducible refine (axle_Clear.calls t215 t216 t217 false false _ A51.out).mono ?_); rintro e w68 ⟨rfl, hb⟩; refine ⟨_, rfl, ?_⟩; have n0_ := Aside0.mk (blk_below (g := gb202) (o := .cells #[.bool t215, .int .i64 t216, .int .i64 t217, .bool false] 34 (0, 0)) (by (with_reducible repeat (first | refine blk_drewN ?_ _ | refine blk_drew ?_ | refine blk_alloc ?_ _)); refine blk_put (cs := #[.bool t215, .int .i64 t216, .int .i64 t217, .bool x203003_3]) ?_ 3 _ rfl; (with_reducible repeat (first | refine blk_drewN ?_ _ | refine blk_drew ?_ | refine blk_alloc ?_ _)); refine blk_put (cs := #[.bool t215, .int .i64 t216, .int .i64 x203002_3, .bool x203003_3]) ?_ 2 _ rfl; (with_reducible repeat (first | refine blk_drewN ?_ _ | refine blk_drew ?_ | refine blk_alloc ?_ _)); refine blk_put (cs := #[.bool t215, .int .i64 x203001_3, .int .i64 x203002_3, .bool x203003_3]) ?_ 1 _ rfl; (with_reducible repeat (first | refine blk_drewN ?_ _ | refine blk_drew ?_ | refine blk_alloc ?_ _)); refine blk_put (cs := #[.bool x203000_3, .int .i64 x203001_3, .int .i64 x203002_3, .bool x203003_3]) ?_ 0 _ rfl; (with_reducible repeat (first | refine blk_drewN ?_ _ | refine blk_drew ?_ | refine blk_alloc ?_ _)); exact BK202.out) hb); have n1_ := Aside0.mk (below_step (by repeat (first | (with_reducible first | exact HB.out | apply below_alloc | apply pw_below_drewN | apply below_drew1 | refine below_set ?_ GE202.out) | exact HB.out)) hb); clear BK202; clear HB; have BK202 := n0_; have HB := n1_; clear n0_ n1_; (try clear hb); (try clear hb2); (try clear hk); (try clear hi); have hcz69_0 : w68.cell? ⟨gb202, 0, none⟩ = some (.bool t215) := (blk_cell BK202.out 0).trans rfl; have hcz69_1 : w68.cell? ⟨gb202, 1, none⟩ = some (.int .i64 t216) := (blk_cell BK202.out 1).trans rfl; have hcz69_2 : w68.cell? ⟨gb202, 2, none⟩ = some (.int .i64 t217) := (blk_cell BK202.out 2).trans rfl; have hcz69_3 : w68.cell? ⟨gb202, 3, none⟩ = some (.bool false) := (blk_cell BK202.out 3).trans rfl; have hfz69_0 := blk_frozen BK202.out 0; have hfz69_1 := blk_frozen BK202.out 1; have hfz69_2 := blk_frozen BK202.out 2; have hfz69_3 := blk_frozen BK202.out 3) | (go_at_call 24; (with_reducible refine (axle_On.calls t215 t216 t217 false t220 _ A63.out).mono ?_); rintro e w70 ⟨rfl, hb⟩; have n0_ := Aside0.mk (blk_below (g := gb202) (o := .cells #[.bool t215, .int .i64 t216, .int .i64 t217, .bool false] 34 (0, 0)) (by (with_reducible repeat (first | refine blk_drewN ?_ _ | refine blk_drew ?_ | refine blk_alloc ?_ _)); exact BK202.out) hb); have n1_ := Aside0.mk (below_step (by repeat (first | (with_reducible first | exact HB.out | apply below_alloc | apply pw_below_drewN | apply below_drew1 | refine below_set ?_ GE202.out) | exact HB.out)) hb); clear BK202; clear HB; have BK202 := n0_; have HB := n1_; clear n0_ n1_; (try clear hb); (try clear hb2); (try clear hk); (try clear hi)))
                            go_roundg k3
                            case measure => have := HJ5.out; have := HK2.out; have := HK3.out; omega
                            case rel => exact ⟨(wrap64 (x12_3 + 1)), (t215), (t216), (t217), (false), (by first | rfl | (simp; done) | (simp [*]; done)), H', ⟨by have := HJ5.out; have := HK2.out; have := HK3.out; omega⟩, ⟨by (with_reducible repeat (first | refine blk_drewN ?_ _ | refine blk_drew ?_ | refine blk_alloc ?_ _)); exact BK202.out⟩, ⟨by repeat (first | (with_reducible first | exact HB.out | apply below_alloc | apply pw_below_drewN | apply below_drew1 | refine below_set ?_ GE202.out) | exact HB.out)⟩⟩
                          · rw [if_neg c64] at H
                            have c64b0 : (t220 == (wrap64 (a1 - a2))) = false := beq_eq_false_iff_ne.mpr c64
                            have c64b1 : (t220 != (wrap64 (a1 - a2))) = true := bne_iff_ne.mpr c64
                            obtain rfl := Option.some.inj H
                            have hcz71_0 : wr.cell? ⟨gb202, 0, none⟩ = some (.bool x203000_3) := (blk_cell BK202.out 0).trans rfl
                            have hcz71_1 : wr.cell? ⟨gb202, 1, none⟩ = some (.int .i64 x203001_3) := (blk_cell BK202.out 1).trans rfl
                            have hcz71_2 : wr.cell? ⟨gb202, 2, none⟩ = some (.int .i64 x203002_3) := (blk_cell BK202.out 2).trans rfl
                            have hcz71_3 : wr.cell? ⟨gb202, 3, none⟩ = some (.bool x203003_3) := (blk_cell BK202.out 3).trans rfl
                            have hfz71_0 := blk_frozen BK202.out 0
                            have hfz71_1 := blk_frozen BK202.out 1
                            have hfz71_2 := blk_frozen BK202.out 2
                            have hfz71_3 := blk_frozen BK202.out 3
                            go_wp2_with (first | ((with_reducible refine gate_callee (f := 22) rfl ?_); refine goesL_ (some 80) rfl rfl Try.func22 (by kernel_rfl) rfl #[.agg #[.bool x203000_3, .int .i64 x203001_3, .int .i64 x203002_3, .bool x203003_3], .int .i64 (wrap64 (a0 + a1)), .int .i64 (wrap64 (a0 + a2))] rfl (by (try simp only [List.map_toArray, List.map_cons, List.map_nil]); first | done | rfl | (simp only [List.length_drop, List.length_take]; rfl)) ?_; (with_reducible refine (axle_Step.calls x203000_3 x203001_3 x203002_3 x203003_3 (wrap64 (a0 + a1)) (wrap64 (a0 + a2)) t215 t216 t217 false _ A50.out).mono ?_); rintro e w72 ⟨rfl, hb⟩; refine ⟨_, rfl, ?_⟩; have n0_ := Aside0.mk (blk_below (g := gb202) (o := .cells #[.bool x203000_3, .int .i64 x203001_3, .int .i64 x203002_3, .bool x203003_3] 34 (0, 0)) (by (with_reducible repeat (first | refine blk_drewN ?_ _ | refine blk_drew ?_ | refine blk_alloc ?_ _)); exact BK202.out) hb); have n1_ := Aside0.mk (below_step (by repeat (first | (with_reducible first | exact HB.out | apply below_alloc | apply pw_below_drewN | apply below_drew1 | refine below_set ?_ GE202.out) | exact HB.out)) hb); clear BK202; clear HB; have BK202 := n0_; have HB := n1_; clear n0_ n1_; (try clear hb); (try clear hb2); (try clear hk); (try clear hi); have hcz73_0 : w72.cell? ⟨gb202, 0, none⟩ = some (.bool x203000_3) := (blk_cell BK202.out 0).trans rfl; have hcz73_1 : w72.cell? ⟨gb202, 1, none⟩ = some (.int .i64 x203001_3) := (blk_cell BK202.out 1).trans rfl; have hcz73_2 : w72.cell? ⟨gb202, 2, none⟩ = some (.int .i64 x203002_3) := (blk_cell BK202.out 2).trans rfl; have hcz73_3 : w72.cell? ⟨gb202, 3, none⟩ = some (.bool x203003_3) := (blk_cell BK202.out 3).trans rfl; have hfz73_0 := blk_frozen BK202.out 0; have hfz73_1 := blk_frozen BK202.out 1; have hfz73_2 := blk_frozen BK202.out 2; have hfz73_3 := blk_frozen BK202.out 3) | ((with_reducible refine gate_callee (f := 26) rfl ?_); refine goesL_ (some 82) rfl rfl Try.func26 (by kernel_rfl) rfl #[.agg #[.bool t215, .int .i64 t216, .int .i64 t217, .bool false]] rfl (by (try simp only [List.map_toArray, List.map_cons, List.map_nil]); first | done | rfl | (simp only [List.length_drop, List.length_take]; rfl)) ?_; (with_reducible refine (axle_Clear.calls t215 t216 t217 false false _ A51.out).mono ?_); rintro e w74 ⟨rfl, hb⟩; refine ⟨_, rfl, ?_⟩; have n0_ := Aside0.mk (blk_below (g := gb202) (o := .cells #[.bool t215, .int .i64 t216, .int .i64 t217, .bool false] 34 (0, 0)) (by (with_reducible repeat (first | refine blk_drewN ?_ _ | refine blk_drew ?_ | refine blk_alloc ?_ _)); refine blk_put (cs := #[.bool t215, .int .i64 t216, .int .i64 t217, .bool x203003_3]) ?_ 3 _ rfl; (with_reducible repeat (first | refine blk_drewN ?_ _ | refine blk_drew ?_ | refine blk_alloc ?_ _)); refine blk_put (cs := #[.bool t215, .int .i64 t216, .int .i64 x203002_3, .bool x203003_3]) ?_ 2 _ rfl; (with_reducible repeat (first | refine blk_drewN ?_ _ | refine blk_drew ?_ | refine blk_alloc ?_ _)); refine blk_put (cs := #[.bool t215, .int .i64 x203001_3, .int .i64 x203002_3, .bool x203003_3]) ?_ 1 _ rfl; (with_reducible repeat (first | refine blk_drewN ?_ _ | refine blk_drew ?_ | refine blk_alloc ?_ _)); refine blk_put (cs := #[.bool x203000_3, .int .i64 x203001_3, .int .i64 x203002_3, .bool x203003_3]) ?_ 0 _ rfl; (with_reducible repeat (first | refine blk_drewN ?_ _ | refine blk_drew ?_ | refine blk_alloc ?_ _)); exact BK202.out) hb); have n1_ := Aside0.mk (below_step (by repeat (first | (with_reducible first | exact HB.out | apply below_alloc | apply pw_below_drewN | apply below_drew1 | refine below_set ?_ GE202.out) | exact HB.out)) hb); clear BK202; clear HB; have BK202 := n0_; have HB := n1_; clear n0_ n1_; (try clear hb); (try clear hb2); (try clear hk); (try clear hi); have hcz75_0 : w74.cell? ⟨gb202, 0, none⟩ = some (.bool t215) := (blk_cell BK202.out 0).trans rfl; have hcz75_1 : w74.cell? ⟨gb202, 1, none⟩ = some (.int .i64 t216) := (blk_cell BK202.out 1).trans rfl; have hcz75_2 : w74.cell? ⟨gb202, 2, none⟩ = some (.int .i64 t217) := (blk_cell BK202.out 2).trans rfl; have hcz75_3 : w74.cell? ⟨gb202, 3, none⟩ = some (.bool false) := (blk_cell BK202.out 3).trans rfl; have hfz75_0 := blk_frozen BK202.out 0; have hfz75_1 := blk_frozen BK202.out 1; have hfz75_2 := blk_frozen BK202.out 2; have hfz75_3 := blk_frozen BK202.out 3) | (go_at_call 24; (with_reducible refine (axle_On.calls t215 t216 t217 false t220 _ A63.out).mono ?_); rintro e w76 ⟨rfl, hb⟩; have n0_ := Aside0.mk (blk_below (g := gb202) (o := .cells #[.bool t215, .int .i64 t216, .int .i64 t217, .bool false] 34 (0, 0)) (by (with_reducible repeat (first | refine blk_drewN ?_ _ | refine blk_drew ?_ | refine blk_alloc ?_ _)); exact BK202.out) hb); have n1_ := Aside0.mk (below_step (by repeat (first | (with_reducible first | exact HB.out | apply below_alloc | apply pw_below_drewN | apply below_drew1 | refine below_set ?_ GE202.out) | exact HB.out)) hb); clear BK202; clear HB; have BK202 := n0_; have HB := n1_; clear n0_ n1_; (try clear hb); (try clear hb2); (try clear hk); (try clear hi)))
                            go_ret
                            exact ⟨by first | rfl | (simp [errW_none, errW_some] <;> rfl) | (simp [*, errW_none, errW_some] <;> rfl), by repeat (first | (with_reducible first | exact HB.out | apply below_alloc | apply pw_below_drewN | apply below_drew1 | refine below_set ?_ GE202.out) | exact HB.out)⟩
                    · rw [if_neg c49] at H
                      have c49b0 : decide (x12_3 < a3) = false := decide_eq_false c49
                      clear c49
                      replace H := Option.bind_eq_some_iff.mp H
                      obtain ⟨⟨t210, t211, t212, t213⟩, A770, H⟩ := H
                      replace H : (if t197 = true then ((axle_Clear.f t210 t211 t212 t213).bind fun t214 => (some t214)) else (some false)) = some r := H
                      have A77 := Aside0.mk A770
                      clear A770
                      by_cases c78 : t197 = true
                      · subst c78
                        have H1 : ((axle_Clear.f t210 t211 t212 t213).bind fun t214 => (some t214)) = some r := by rw [if_pos rfl] at H; exact H
                        clear H
                        have H := H1
                        clear H1
                        replace H := Option.bind_eq_some_iff.mp H
                        obtain ⟨t214, A790, H⟩ := H
                        replace H : (some t214) = some r := H
                        have A79 := Aside0.mk A790
                        clear A790
                        obtain rfl := Option.some.inj H
                        have hcz80_0 : wr.cell? ⟨gb202, 0, none⟩ = some (.bool x203000_3) := (blk_cell BK202.out 0).trans rfl
                        have hcz80_1 : wr.cell? ⟨gb202, 1, none⟩ = some (.int .i64 x203001_3) := (blk_cell BK202.out 1).trans rfl
                        have hcz80_2 : wr.cell? ⟨gb202, 2, none⟩ = some (.int .i64 x203002_3) := (blk_cell BK202.out 2).trans rfl
                        have hcz80_3 : wr.cell? ⟨gb202, 3, none⟩ = some (.bool x203003_3) := (blk_cell BK202.out 3).trans rfl
                        have hfz80_0 := blk_frozen BK202.out 0
                        have hfz80_1 := blk_frozen BK202.out 1
                        have hfz80_2 := blk_frozen BK202.out 2
                        have hfz80_3 := blk_frozen BK202.out 3
                        go_wp2_with (first | ((with_reducible refine gate_callee (f := 22) rfl ?_); refine goesL_ (some 102) rfl rfl Try.func22 (by kernel_rfl) rfl #[.agg #[.bool x203000_3, .int .i64 x203001_3, .int .i64 x203002_3, .bool x203003_3], .int .i64 (wrap64 (a0 + a1)), .int .i64 (wrap64 (a0 + a1))] rfl (by (try simp only [List.map_toArray, List.map_cons, List.map_nil]); first | done | rfl | (simp only [List.length_drop, List.length_take]; rfl)) ?_; (with_reducible refine (axle_Step.calls x203000_3 x203001_3 x203002_3 x203003_3 (wrap64 (a0 + a1)) (wrap64 (a0 + a1)) t210 t211 t212 t213 _ A77.out).mono ?_); rintro e w81 ⟨rfl, hb⟩; refine ⟨_, rfl, ?_⟩; have n0_ := Aside0.mk (blk_below (g := gb202) (o := .cells #[.bool x203000_3, .int .i64 x203001_3, .int .i64 x203002_3, .bool x203003_3] 34 (0, 0)) (by (with_reducible repeat (first | refine blk_drewN ?_ _ | refine blk_drew ?_ | refine blk_alloc ?_ _)); exact BK202.out) hb); have n1_ := Aside0.mk (below_step (by repeat (first | (with_reducible first | exact HB.out | apply below_alloc | apply pw_below_drewN | apply below_drew1 | refine below_set ?_ GE202.out) | exact HB.out)) hb); clear BK202; clear HB; have BK202 := n0_; have HB := n1_; clear n0_ n1_; (try clear hb); (try clear hb2); (try clear hk); (try clear hi); have hcz82_0 : w81.cell? ⟨gb202, 0, none⟩ = some (.bool x203000_3) := (blk_cell BK202.out 0).trans rfl; have hcz82_1 : w81.cell? ⟨gb202, 1, none⟩ = some (.int .i64 x203001_3) := (blk_cell BK202.out 1).trans rfl; have hcz82_2 : w81.cell? ⟨gb202, 2, none⟩ = some (.int .i64 x203002_3) := (blk_cell BK202.out 2).trans rfl; have hcz82_3 : w81.cell? ⟨gb202, 3, none⟩ = some (.bool x203003_3) := (blk_cell BK202.out 3).trans rfl; have hfz82_0 := blk_frozen BK202.out 0; have hfz82_1 := blk_frozen BK202.out 1; have hfz82_2 := blk_frozen BK202.out 2; have hfz82_3 := blk_frozen BK202.out 3) | (go_at_call 26; (with_reducible refine (axle_Clear.calls t210 t211 t212 t213 t214 _ A79.out).mono ?_); rintro e w83 ⟨rfl, hb⟩; have n0_ := Aside0.mk (blk_below (g := gb202) (o := .cells #[.bool t210, .int .i64 t211, .int .i64 t212, .bool t213] 34 (0, 0)) (by (with_reducible repeat (first | refine blk_drewN ?_ _ | refine blk_drew ?_ | refine blk_alloc ?_ _)); refine blk_put (cs := #[.bool t210, .int .i64 t211, .int .i64 t212, .bool x203003_3]) ?_ 3 _ rfl; (with_reducible repeat (first | refine blk_drewN ?_ _ | refine blk_drew ?_ | refine blk_alloc ?_ _)); refine blk_put (cs := #[.bool t210, .int .i64 t211, .int .i64 x203002_3, .bool x203003_3]) ?_ 2 _ rfl; (with_reducible repeat (first | refine blk_drewN ?_ _ | refine blk_drew ?_ | refine blk_alloc ?_ _)); refine blk_put (cs := #[.bool t210, .int .i64 x203001_3, .int .i64 x203002_3, .bool x203003_3]) ?_ 1 _ rfl; (with_reducible repeat (first | refine blk_drewN ?_ _ | refine blk_drew ?_ | refine blk_alloc ?_ _)); refine blk_put (cs := #[.bool x203000_3, .int .i64 x203001_3, .int .i64 x203002_3, .bool x203003_3]) ?_ 0 _ rfl; (with_reducible repeat (first | refine blk_drewN ?_ _ | refine blk_drew ?_ | refine blk_alloc ?_ _)); exact BK202.out) hb); have n1_ := Aside0.mk (below_step (by repeat (first | (with_reducible first | exact HB.out | apply below_alloc | apply pw_below_drewN | apply below_drew1 | refine below_set ?_ GE202.out) | exact HB.out)) hb); clear BK202; clear HB; have BK202 := n0_; have HB := n1_; clear n0_ n1_; (try clear hb); (try clear hb2); (try clear hk); (try clear hi)))
                        go_ret
                        exact ⟨by first | rfl | (simp [errW_none, errW_some] <;> rfl) | (simp [*, errW_none, errW_some] <;> rfl), by repeat (first | (with_reducible first | exact HB.out | apply below_alloc | apply pw_below_drewN | apply below_drew1 | refine below_set ?_ GE202.out) | exact HB.out)⟩
                      · replace c78 := Bool.eq_false_iff.mpr c78
                        subst c78
                        have H1 : (some false) = some r := by rw [if_neg (show ¬ (false = true) by decide)] at H; exact H
                        clear H
                        have H := H1
                        clear H1
                        obtain rfl := Option.some.inj H
                        have hcz84_0 : wr.cell? ⟨gb202, 0, none⟩ = some (.bool x203000_3) := (blk_cell BK202.out 0).trans rfl
                        have hcz84_1 : wr.cell? ⟨gb202, 1, none⟩ = some (.int .i64 x203001_3) := (blk_cell BK202.out 1).trans rfl
                        have hcz84_2 : wr.cell? ⟨gb202, 2, none⟩ = some (.int .i64 x203002_3) := (blk_cell BK202.out 2).trans rfl
                        have hcz84_3 : wr.cell? ⟨gb202, 3, none⟩ = some (.bool x203003_3) := (blk_cell BK202.out 3).trans rfl
                        have hfz84_0 := blk_frozen BK202.out 0
                        have hfz84_1 := blk_frozen BK202.out 1
                        have hfz84_2 := blk_frozen BK202.out 2
                        have hfz84_3 := blk_frozen BK202.out 3
                        go_wp2_with (first | ((with_reducible refine gate_callee (f := 22) rfl ?_); refine goesL_ (some 102) rfl rfl Try.func22 (by kernel_rfl) rfl #[.agg #[.bool x203000_3, .int .i64 x203001_3, .int .i64 x203002_3, .bool x203003_3], .int .i64 (wrap64 (a0 + a1)), .int .i64 (wrap64 (a0 + a1))] rfl (by (try simp only [List.map_toArray, List.map_cons, List.map_nil]); first | done | rfl | (simp only [List.length_drop, List.length_take]; rfl)) ?_; (with_reducible refine (axle_Step.calls x203000_3 x203001_3 x203002_3 x203003_3 (wrap64 (a0 + a1)) (wrap64 (a0 + a1)) t210 t211 t212 t213 _ A77.out).mono ?_); rintro e w85 ⟨rfl, hb⟩; refine ⟨_, rfl, ?_⟩; have n0_ := Aside0.mk (blk_below (g := gb202) (o := .cells #[.bool x203000_3, .int .i64 x203001_3, .int .i64 x203002_3, .bool x203003_3] 34 (0, 0)) (by (with_reducible repeat (first | refine blk_drewN ?_ _ | refine blk_drew ?_ | refine blk_alloc ?_ _)); exact BK202.out) hb); have n1_ := Aside0.mk (below_step (by repeat (first | (with_reducible first | exact HB.out | apply below_alloc | apply pw_below_drewN | apply below_drew1 | refine below_set ?_ GE202.out) | exact HB.out)) hb); clear BK202; clear HB; have BK202 := n0_; have HB := n1_; clear n0_ n1_; (try clear hb); (try clear hb2); (try clear hk); (try clear hi); have hcz86_0 : w85.cell? ⟨gb202, 0, none⟩ = some (.bool x203000_3) := (blk_cell BK202.out 0).trans rfl; have hcz86_1 : w85.cell? ⟨gb202, 1, none⟩ = some (.int .i64 x203001_3) := (blk_cell BK202.out 1).trans rfl; have hcz86_2 : w85.cell? ⟨gb202, 2, none⟩ = some (.int .i64 x203002_3) := (blk_cell BK202.out 2).trans rfl; have hcz86_3 : w85.cell? ⟨gb202, 3, none⟩ = some (.bool x203003_3) := (blk_cell BK202.out 3).trans rfl; have hfz86_0 := blk_frozen BK202.out 0; have hfz86_1 := blk_frozen BK202.out 1; have hfz86_2 := blk_frozen BK202.out 2; have hfz86_3 := blk_frozen BK202.out 3))
                        go_ret
                        exact ⟨by first | rfl | (simp [errW_none, errW_some] <;> rfl) | (simp [*, errW_none, errW_some] <;> rfl), by repeat (first | (with_reducible first | exact HB.out | apply below_alloc | apply pw_below_drewN | apply below_drew1 | refine below_set ?_ GE202.out) | exact HB.out)⟩
        · replace c16 := Bool.eq_false_iff.mpr c16
          subst c16
          have H1 : (some false) = some r := by rw [if_neg (show ¬ (false = true) by decide)] at H; exact H
          clear H
          have H := H1
          clear H1
          obtain rfl := Option.some.inj H
          go_wp2_with (first | ((with_reducible refine gate_callee (f := 22) rfl ?_); refine goesL_ (some 41) rfl rfl Try.func22 (by kernel_rfl) rfl #[.agg #[.bool false, .int .i64 0, .int .i64 0, .bool false], .int .i64 a0, .int .i64 a0] rfl (by (try simp only [List.map_toArray, List.map_cons, List.map_nil]); first | done | rfl | (simp only [List.length_drop, List.length_take]; rfl)) ?_; (with_reducible refine (axle_Step.calls false 0 0 false a0 a0 t198 t199 t200 t201 _ A14.out).mono ?_); rintro e w87 ⟨rfl, hb⟩; refine ⟨_, rfl, ?_⟩; have n0_ := Aside0.mk (below_step (by repeat (first | (with_reducible first | exact HB.out | apply below_alloc | apply pw_below_drewN | apply below_drew1) | exact HB.out)) hb); clear HB; have HB := n0_; clear n0_; (try clear hb); (try clear hb2); (try clear hk); (try clear hi)) | ((with_reducible refine gate_dst (N := 10) rfl ?_); refine box_event ?hg (N := 10) ?hd (cs := #[.bool false, .int .i64 0, .int .i64 0, .bool false]) (t := 34) ?hr ?_; (case hd => rfl); (case hg => rfl); (case hr => first | (go_simp; done) | (go_simp; rfl)); intro gb202 hg w88 hbox hb; have n0_ := Aside0.mk (below_step (by repeat (first | (with_reducible first | exact HB.out | apply below_alloc | apply pw_below_drewN | apply below_drew1) | exact HB.out)) hb); have n1_ := Aside0.mk (hbox); have n2_ := Aside0.mk ((by rw [hg]; exact (below_size (by repeat (first | (with_reducible first | exact HB.out | apply below_alloc | apply pw_below_drewN | apply below_drew1) | exact HB.out))) : w.heap.size ≤ gb202)); have n3_ := Aside0.mk ((by rw [hg]; exact (below_size (by repeat (first | (with_reducible first | exact HB.out | apply below_alloc | apply pw_below_drewN | apply below_drew1) | exact HB.out))) : w.heap.size ≤ gb202)); clear HB; have HB := n0_; have BK202 := n1_; have GW202 := n2_; have GE202 := n3_; clear n0_ n1_ n2_ n3_; clear hb hbox hg; have hcz89_0 : w88.cell? ⟨gb202, 0, none⟩ = some (.bool false) := (blk_cell BK202.out 0).trans rfl; have hcz89_1 : w88.cell? ⟨gb202, 1, none⟩ = some (.int .i64 0) := (blk_cell BK202.out 1).trans rfl; have hcz89_2 : w88.cell? ⟨gb202, 2, none⟩ = some (.int .i64 0) := (blk_cell BK202.out 2).trans rfl; have hcz89_3 : w88.cell? ⟨gb202, 3, none⟩ = some (.bool false) := (blk_cell BK202.out 3).trans rfl; have hfz89_0 := blk_frozen BK202.out 0; have hfz89_1 := blk_frozen BK202.out 1; have hfz89_2 := blk_frozen BK202.out 2; have hfz89_3 := blk_frozen BK202.out 3) | ((with_reducible refine gate_callee (f := 26) rfl ?_); refine goesL_ (some 43) rfl rfl Try.func26 (by kernel_rfl) rfl #[.agg #[.bool t198, .int .i64 t199, .int .i64 t200, .bool t201]] rfl (by (try simp only [List.map_toArray, List.map_cons, List.map_nil]); first | done | rfl | (simp only [List.length_drop, List.length_take]; rfl)) ?_; (with_reducible refine (axle_Clear.calls t198 t199 t200 t201 false _ A15.out).mono ?_); rintro e w90 ⟨rfl, hb⟩; refine ⟨_, rfl, ?_⟩; have n0_ := Aside0.mk (blk_below (g := gb202) (o := .cells #[.bool t198, .int .i64 t199, .int .i64 t200, .bool t201] 34 (0, 0)) (by (with_reducible repeat (first | refine blk_drewN ?_ _ | refine blk_drew ?_ | refine blk_alloc ?_ _)); refine blk_put (cs := #[.bool t198, .int .i64 t199, .int .i64 t200, .bool false]) ?_ 3 _ rfl; (with_reducible repeat (first | refine blk_drewN ?_ _ | refine blk_drew ?_ | refine blk_alloc ?_ _)); refine blk_put (cs := #[.bool t198, .int .i64 t199, .int .i64 0, .bool false]) ?_ 2 _ rfl; (with_reducible repeat (first | refine blk_drewN ?_ _ | refine blk_drew ?_ | refine blk_alloc ?_ _)); refine blk_put (cs := #[.bool t198, .int .i64 0, .int .i64 0, .bool false]) ?_ 1 _ rfl; (with_reducible repeat (first | refine blk_drewN ?_ _ | refine blk_drew ?_ | refine blk_alloc ?_ _)); refine blk_put (cs := #[.bool false, .int .i64 0, .int .i64 0, .bool false]) ?_ 0 _ rfl; (with_reducible repeat (first | refine blk_drewN ?_ _ | refine blk_drew ?_ | refine blk_alloc ?_ _)); exact BK202.out) hb); have n1_ := Aside0.mk (below_step (by repeat (first | (with_reducible first | exact HB.out | apply below_alloc | apply pw_below_drewN | apply below_drew1 | refine below_set ?_ GE202.out) | exact HB.out)) hb); clear BK202; clear HB; have BK202 := n0_; have HB := n1_; clear n0_ n1_; (try clear hb); (try clear hb2); (try clear hk); (try clear hi)))
          go_ret
          exact ⟨by first | rfl | (simp [errW_none, errW_some] <;> rfl) | (simp [*, errW_none, errW_some] <;> rfl), by repeat (first | (with_reducible first | exact HB.out | apply below_alloc | apply pw_below_drewN | apply below_drew1 | refine below_set ?_ GE202.out) | exact HB.out)⟩

-- NOT PRINTED: function 10 (crossbucklaw11_AxleWrong)

-- NOT PRINTED: function 11 (crossbucklaw11_AxleLeaps)

-- NOT PRINTED: function 12 (crossbucklaw11_AxleSame)

end Go.Proofs.Ytdnokmlonahmnaa.A
