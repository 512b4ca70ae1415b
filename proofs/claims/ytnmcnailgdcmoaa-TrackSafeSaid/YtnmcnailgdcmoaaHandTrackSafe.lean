/- TrackSafe walked: a track with axles on it, or of which nothing fresh is told, is never clear, and calls when its delay is over. -/
import Derived.Test.YtnmcnailgdcmoaaHandSmall12
import Derived.Test.YtnmcnailgdcmoaaPureTrack
import Derived.Deep.CutRange
import Derived.Deep.DeepCutAuto
import Derived.Deep.CutBlock
import Derived.Outline
import Derived.Deep.RegionHeld3
import Derived.Deep.DrawnRows
import Derived.Deep.QuietTactic
import Derived.BigQuiet
import Derived.BigRegion
import Derived.Deep.RegionWith
namespace Go.Proofs.Ytnmcnailgdcmoaa.B
open Go.RowKit Go.Proofs.YtnmcnailgdcmoaaW.PrintWords Go.Proofs.YtnmcnailgdcmoaaW.PrintLast Go.Proofs.YtnmcnailgdcmoaaW.PrintMore
set_option linter.unusedVariables false
set_option linter.unusedSimpArgs false
attribute [local go_sem] Quiet.bel_all
attribute [local go_sem ↓] Go.wp_at_zero Go.wp_at_succ
namespace Safe
open Go.Proofs.Ytnmcnailgdcmoaa.Track
theorem cell_off {w : World} {p a : Addr} {v : Value} (h : a.block ≠ p.block) : (w.setCell p v).cell? a = w.cell? a := World.cell?_of_block (w := w) (Below.heap_setCell w p v a.block h)
theorem blk_bel {W w' : World} {g : Nat} {o : Obj} (h : W.heap[g]? = some o) (hb : Quiet.Bel W w') : w'.heap[g]? = some o := blk_below h hb
/-- What a tick makes of a track that was so long not clear. -/
def Fit (fr : Bool) (ci co cc cb n d0 d1 d2 : Int) (c : Bool) (s : Int) (f k : Bool) : Prop :=
  (c = true → fr = true ∧ f = false ∧ k = false ∧ s = 0 ∧ (ci - co) % 256 = 0 ∧ cb % 4 = 0) ∧ (c = false → s = n + 1 ∧ (0 ≤ cc → cc ≤ 2 → n + 1 > wait cc d0 d1 d2 → k = true)) ∧ (fr = false → c = false ∧ f = true ∧ k = true)
theorem fits (h : Bool) (ai : Int) (ao : Int) (wg : Bool) (lie : Int) (pos : Int) (jm : Bool) (cl : Bool) (n : Int) (fa : Bool) (ca : Bool) (fr : Bool) (ci : Int) (co : Int) (cc : Int) (cb : Int) (d0 : Int) (d1 : Int) (d2 : Int) (rs : Bool) (hn : 0 ≤ n ∧ n ≤ 200) : ∃ r1 r2 r3 r4 r5 r6 r7 r8 r9 r10 r11, track_Step.f 4 h ai ao wg lie pos jm cl n fa ca fr ci co cc cb d0 d1 d2 rs = some (r1, r2, r3, r4, r5, r6, r7, r8, r9, r10, r11) ∧ Fit fr ci co cc cb n d0 d1 d2 r8 r9 r10 r11 := by
  have e := step_eq 0 h ai ao wg lie pos jm cl n fa ca fr ci co cc cb d0 d1 d2 rs _ _ _ _ _ rfl rfl rfl rfl rfl
  refine ⟨_, _, _, _, _, _, _, _, _, _, _, e, ?_⟩
  have hs : mn (mx n 0) 1073741823 + 1 = n + 1 := by unfold mn mx; split <;> split <;> omega
  generalize hw : wN fr rs h ai ao wg ci co = w
  generalize hj : jN fr rs lie jm cb = j
  cases fr
  · have hf : fN false w j = true := rfl
    have hc : cN true (hN false h) w (iN false ai ci) (iN false ao co) (lN false lie cb) j = false := rfl
    rw [hf, hc]
    refine ⟨(fun x => by cases x), fun _ => ⟨?_, fun _ _ _ => rfl⟩, fun _ => ⟨rfl, rfl, rfl⟩⟩
    unfold sN
    rw [if_neg (by decide)]
    exact hs
  · generalize hf : fN true w j = f
    generalize hc : cN f (hN true h) w (iN true ai ci) (iN true ao co) (lN true lie cb) j = c
    refine ⟨fun x => ?_, fun x => ?_, (fun x => by cases x)⟩
    · subst x
      unfold cN hN iN lN B.ahead at hc
      simp only [if_true] at hc
      have h4 : cb % 4 % 4 = cb % 4 := by omega
      have h5 : (ci % 256 - co % 256) % 256 = (ci - co) % 256 := by omega
      rw [h4, h5] at hc
      have a1 : f = false := by
        cases f
        · rfl
        · simp at hc
      have a2 : ((ci - co) % 256 == 0) = true := by
        cases hh : ((ci - co) % 256 == 0)
        · rw [hh] at hc; simp at hc
        · rfl
      have a3 : (cb % 4 == 0) = true := by
        cases hh : (cb % 4 == 0)
        · rw [hh] at hc; simp at hc
        · rfl
      have hc2 := beq_iff_eq.1 a2
      have hc3 := beq_iff_eq.1 a3
      subst a1
      exact ⟨rfl, rfl, rfl, rfl, hc2, hc3⟩
    · subst x
      unfold sN kN
      rw [if_neg (by decide), hs]
      exact ⟨rfl, fun _ _ hg => by rw [decide_eq_true hg]; simp⟩
set_option maxHeartbeats 100000000 in
set_option maxRecDepth 200000 in
theorem walk0 (w : World) (A0 : Option Addr) (c0 : Nat) (l0 : List S34) (d0 d1 d2 : Int) (A2 : Option Addr) (c2 : Nat) (l2 : List Bool) (hc0 : l0.length ≤ c0) (hr0 : Kd.C k34 w A0 l0.length l0) (hc2 : l2.length ≤ c2) (hr2 : Kd.C Kd.bool w A2 l2.length l2) (hl : (l0.length : Int) ≤ 200) :
    Calls Try.prog 3 #[.slice A0 l0.length c0, .agg #[.int .i64 d0, .int .i64 d1, .int .i64 d2], .slice A2 l2.length c2] w fun e w' => e = .returned (.bool true) ∧ Below w.heap.size w w' := by
  have HR0 := Aside0.mk hr0
  have HC0 := Aside0.mk hc0
  have HR2 := Aside0.mk hr2
  have HC2 := Aside0.mk hc2
  have HL := Aside0.mk hl
  have g1 : decide ((l0.length : Int) > 200) = false := decide_eq_false (by omega)
  have g1' : decide ((200 : Int) < (l0.length : Int)) = false := decide_eq_false (by omega)
  have g1n : decide (200 < l0.length) = false := decide_eq_false (by omega)
  clear hr0 hc0 hr2 hc2 hl
  have hu31 := Try.underlying31
  have hu34 := Try.underlying34
  have hu23 := Try.underlying23
  go_enter Try.func3, Try.ntmps3
  go_wp2_with fail
  refine (crossbucklaw12_small.calls true _ rfl).mono ?_
  rintro e w1 ⟨rfl, hb1⟩
  have H1 : Aside0 (Below w.heap.size w w1) := ⟨below_step (below_alloc (Below.refl _ _) _) hb1⟩
  have BK1 := Aside0.mk (blk_below (blk_new w (.cells #[.int .i64 d0, .int .i64 d1, .int .i64 d2] 23 (0, 0))) hb1)
  have HS := Aside0.mk (show w.heap.size < w1.heap.size by have := hb1.size; simp at this; omega)
  clear hb1
  go_wp2_with fail
  go_loopg [9, 10] (l0.length + 1) (fun kq v9 v10 w' => ∃ (h : Bool) (ai : Int) (ao : Int) (wg : Bool) (lie : Int) (pos : Int) (jm : Bool) (cl : Bool) (n : Int) (fa : Bool) (ca : Bool) (i : Int), v9 = .int .i64 n ∧ v10 = .int .i64 i ∧ Aside0 (0 ≤ n ∧ n ≤ i ∧ 0 ≤ i ∧ i ≤ l0.length ∧ i + kq = l0.length + 1) ∧ Aside0 (w'.heap[w1.heap.size]? = some (.cells #[.bool h, .int .i64 ai, .int .i64 ao, .bool wg, .int .i64 lie, .int .i64 pos, .bool jm, .bool cl, .int .i64 n, .bool fa, .bool ca] 31 (0, 0))) ∧ Aside0 (w'.heap[w.heap.size]? = some (.cells #[.int .i64 d0, .int .i64 d1, .int .i64 d2] 23 (0, 0))) ∧ Aside0 (Below w.heap.size w w'))
  case atStart =>
    refine ⟨false, 0, 0, false, 0, 0, false, false, 0, false, false, 0, rfl, rfl, ⟨by omega⟩, ⟨blk_new w1 _⟩, ⟨blk_alloc BK1.out _⟩, ⟨below_alloc H1.out _⟩⟩
  case round =>
    clear H1 BK1 g1 g1' g1n
    obtain ⟨h, ai, ao, wg, lie, pos, jm, cl, n, fa, ca, i, rfl, rfl, HI, HBK, HDK, HB⟩ := hrel
    by_cases c2 : i < (l0.length : Int)
    case neg =>
      have c2b : decide (i < (l0.length : Int)) = false := decide_eq_false c2
      clear c2
      go_wp2_with fail
      go_ret
      exact ⟨rfl, HB.out⟩
    case pos =>
      have c3 : 0 ≤ i := HI.out.2.2.1
      have c2b : decide (i < (l0.length : Int)) = true := decide_eq_true c2
      cases gk with
      | zero => exact absurd HI.out (by omega)
      | succ k1 =>
      have WX := Aside0.mk (show wrap64 (i + 1) = i + 1 by unfold wrap64; have := HL.out; have := HI.out; omega)
      have WN := Aside0.mk (show wrap64 (n + 1) = n + 1 by unfold wrap64; have := HL.out; have := HI.out; omega)
      obtain ⟨ad, e, h0, h1, h2, h3, h4⟩ := at_T34 HR0.out i c3 c2
      cases e
      have AD := Aside0.mk (World.block_lt_of_cell? w _ h0)
      replace h0 := (HB.out.cell (World.block_lt_of_cell? w _ h0)).trans h0
      replace h1 := (HB.out.cell (World.block_lt_of_cell? w _ h1)).trans h1
      replace h2 := (HB.out.cell (World.block_lt_of_cell? w _ h2)).trans h2
      replace h3 := (HB.out.cell (World.block_lt_of_cell? w _ h3)).trans h3
      replace h4 := (HB.out.cell (World.block_lt_of_cell? w _ h4)).trans h4
      generalize hA0 : (rd_T34 l0 i).f0 = fr at h0 h1 h2 h3 h4
      clear hA0
      generalize hA1 : (rd_T34 l0 i).f1 = ci at h0 h1 h2 h3 h4
      clear hA1
      generalize hA2 : (rd_T34 l0 i).f2 = co at h0 h1 h2 h3 h4
      clear hA2
      generalize hA3 : (rd_T34 l0 i).f3 = cc at h0 h1 h2 h3 h4
      clear hA3
      generalize hA4 : (rd_T34 l0 i).f4 = cb at h0 h1 h2 h3 h4
      clear hA4
      have HH0 := Aside0.mk h0
      have HH1 := Aside0.mk h1
      have HH2 := Aside0.mk h2
      have HH3 := Aside0.mk h3
      have HH4 := Aside0.mk h4
      have p241 := eq_true c3
      have q241 := eq_true c2
      have HI3 := Aside0.mk c2
      have HI4 := Aside0.mk c3
      clear c2 c3 h0 h1 h2 h3 h4
      go_upto_region 9 with (fail)
      go_cut [] (fun wc => ∃ (r1 : Bool) (r2 : Int) (r3 : Int) (r4 : Bool) (r5 : Int) (r6 : Int) (r7 : Bool) (r8 : Bool) (r9 : Int) (r10 : Bool) (r11 : Bool), Aside0 (Fit fr ci co cc cb n d0 d1 d2 r8 r9 r10 r11) ∧ Aside0 (wc.heap[w1.heap.size]? = some (.cells #[.bool r1, .int .i64 r2, .int .i64 r3, .bool r4, .int .i64 r5, .int .i64 r6, .bool r7, .bool r8, .int .i64 r9, .bool r10, .bool r11] 31 (0, 0))) ∧ Aside0 (wc.heap[w.heap.size]? = some (.cells #[.int .i64 d0, .int .i64 d1, .int .i64 d2] 23 (0, 0))) ∧ Aside0 (Below w.heap.size w wc) ∧ Aside0 (wc.cell? (ad.add (i.toNat * 5)) = some (.bool fr) ∧ wc.cell? ⟨(ad.add (i.toNat * 5)).block, (ad.add (i.toNat * 5)).off + 1, none⟩ = some (.int .i64 ci) ∧ wc.cell? ⟨(ad.add (i.toNat * 5)).block, (ad.add (i.toNat * 5)).off + 2, none⟩ = some (.int .i64 co) ∧ wc.cell? ⟨(ad.add (i.toNat * 5)).block, (ad.add (i.toNat * 5)).off + 3, none⟩ = some (.int .i64 cc) ∧ wc.cell? ⟨(ad.add (i.toNat * 5)).block, (ad.add (i.toNat * 5)).off + 4, none⟩ = some (.int .i64 cb)))
      case first =>
        have BK0 := Aside0.mk (show wr.heap[w.heap.size]? = some (.cells #[.int .i64 d0, .int .i64 d1, .int .i64 d2] 23 (0, 0)) from HDK.out)
        by_cases c5 : i < (l2.length : Int)
        · have c5b : decide (i < (l2.length : Int)) = true := decide_eq_true c5
          obtain ⟨ad2, e2, hx⟩ := Kd.at_bool HR2.out i HI4.out c5
          cases e2
          replace hx := (HB.out.cell (World.block_lt_of_cell? w _ hx)).trans hx
          generalize hA9 : rdOf false l2 i = rv at hx
          clear hA9
          have HX := Aside0.mk hx
          have q5 := eq_true c5
          clear c5 hx
          obtain ⟨r1, r2, r3, r4, r5, r6, r7, r8, r9, r10, r11, hst, hfit⟩ := fits h ai ao wg lie pos jm cl n fa ca fr ci co cc cb d0 d1 d2 rv (by have := HI.out; have := HL.out; omega)
          have HST := Aside0.mk hst
          have HFIT := Aside0.mk hfit
          clear hst hfit
          apply Quiet.tail (S := (fun w' => w'.heap[w1.heap.size]? = some (.cells #[.bool h, .int .i64 ai, .int .i64 ao, .bool wg, .int .i64 lie, .int .i64 pos, .bool jm, .bool cl, .int .i64 n, .bool fa, .bool ca] 31) ∧ w'.heap[w.heap.size]? = some (.cells #[.int .i64 d0, .int .i64 d1, .int .i64 d2] 23) ∧ w'.cell? (ad.add (i.toNat * 5)) = some (.bool fr) ∧ w'.cell? ⟨(ad.add (i.toNat * 5)).block, (ad.add (i.toNat * 5)).off + 1, none⟩ = some (.int .i64 ci) ∧ w'.cell? ⟨(ad.add (i.toNat * 5)).block, (ad.add (i.toNat * 5)).off + 2, none⟩ = some (.int .i64 co) ∧ w'.cell? ⟨(ad.add (i.toNat * 5)).block, (ad.add (i.toNat * 5)).off + 3, none⟩ = some (.int .i64 cc) ∧ w'.cell? ⟨(ad.add (i.toNat * 5)).block, (ad.add (i.toNat * 5)).off + 4, none⟩ = some (.int .i64 cb) ∧ w'.cell? (ad2.add i.toNat) = some (.bool rv))) (n := 17) (hm := by kernel_rfl) (hB := by kernel_rfl) (hz := by kernel_rfl) (hS := fun w' hw => ⟨blk_bel HBK.out hw, blk_bel HDK.out hw, Quiet.Bel.cellA hw HH0.out, Quiet.Bel.cellA hw HH1.out, Quiet.Bel.cellA hw HH2.out, Quiet.Bel.cellA hw HH3.out, Quiet.Bel.cellA hw HH4.out, Quiet.Bel.cellA hw HX.out⟩)
          case h =>
            intro W1 hcell
            simp only [List.take_succ_cons, List.take_zero, List.eraseIdx_cons_succ, List.eraseIdx_cons_zero, List.drop_succ_cons, List.drop_zero]
            repeat (first
              | go_big_quiet_skip
              | (go_big_quiet_want; go_big_quiet_op; go_big_quiet_on)
              | (refine Quiet.val _ _ (by rfl) (by (intro w' hC; obtain ⟨s0, s1, s2, s3, s4, s5, s6, s7⟩ := hcell w' hC; have x0 : w'.cell? ⟨w1.heap.size, 0, none⟩ = some (.bool h) := blk_cell s0 0; have x1 : w'.cell? ⟨w1.heap.size, 1, none⟩ = some (.int .i64 ai) := blk_cell s0 1; have x2 : w'.cell? ⟨w1.heap.size, 2, none⟩ = some (.int .i64 ao) := blk_cell s0 2; have x3 : w'.cell? ⟨w1.heap.size, 3, none⟩ = some (.bool wg) := blk_cell s0 3; have x4 : w'.cell? ⟨w1.heap.size, 4, none⟩ = some (.int .i64 lie) := blk_cell s0 4; have x5 : w'.cell? ⟨w1.heap.size, 5, none⟩ = some (.int .i64 pos) := blk_cell s0 5; have x6 : w'.cell? ⟨w1.heap.size, 6, none⟩ = some (.bool jm) := blk_cell s0 6; have x7 : w'.cell? ⟨w1.heap.size, 7, none⟩ = some (.bool cl) := blk_cell s0 7; have x8 : w'.cell? ⟨w1.heap.size, 8, none⟩ = some (.int .i64 n) := blk_cell s0 8; have x9 : w'.cell? ⟨w1.heap.size, 9, none⟩ = some (.bool fa) := blk_cell s0 9; have x10 : w'.cell? ⟨w1.heap.size, 10, none⟩ = some (.bool ca) := blk_cell s0 10; have y0 : w'.cell? ⟨w.heap.size, 0, none⟩ = some (.int .i64 d0) := blk_cell s1 0; have y1 : w'.cell? ⟨w.heap.size, 1, none⟩ = some (.int .i64 d1) := blk_cell s1 1; have y2 : w'.cell? ⟨w.heap.size, 2, none⟩ = some (.int .i64 d2) := blk_cell s1 2; clear s0 s1; go_simp; with_reducible rfl)) (by (simp only [Act.put, List.setIfInBounds_toArray, List.set_cons_zero, List.set_cons_succ]; rfl)) ?_)
              | (refine Quiet.call (args := #[.agg #[.bool h, .int .i64 ai, .int .i64 ao, .bool wg, .int .i64 lie, .int .i64 pos, .bool jm, .bool cl, .int .i64 n, .bool fa, .bool ca], .agg #[.bool fr, .int .i64 ci, .int .i64 co, .int .i64 cc, .int .i64 cb], .agg #[.int .i64 d0, .int .i64 d1, .int .i64 d2], .bool rv]) _ _ (by rfl) (by rfl) Try.func14 (by kernel_rfl) rfl (by simp only [List.map_toArray, List.map_cons, List.map_nil]; rfl) (fun w' hC => track_Step.calls 4 h ai ao wg lie pos jm cl n fa ca fr ci co cc cb d0 d1 d2 rv r1 r2 r3 r4 r5 r6 r7 r8 r9 r10 r11 w' HST.out) (by (simp only [Act.put, List.setIfInBounds_toArray, List.set_cons_zero, List.set_cons_succ]; rfl)) ?_))
            exact Quiet.done rfl
          intro W0 hW0 w' hbel hS
          obtain ⟨s0, s1, s2, s3, s4, s5, s6, s7⟩ := hS
          have q0 : w'.cell? ⟨w1.heap.size, 0, none⟩ = some (.bool h) := blk_cell s0 0
          have f0 := Quiet.frozen_of s0 0
          have q1 : w'.cell? ⟨w1.heap.size, 1, none⟩ = some (.int .i64 ai) := blk_cell s0 1
          have f1 := Quiet.frozen_of s0 1
          have q2 : w'.cell? ⟨w1.heap.size, 2, none⟩ = some (.int .i64 ao) := blk_cell s0 2
          have f2 := Quiet.frozen_of s0 2
          have q3 : w'.cell? ⟨w1.heap.size, 3, none⟩ = some (.bool wg) := blk_cell s0 3
          have f3 := Quiet.frozen_of s0 3
          have q4 : w'.cell? ⟨w1.heap.size, 4, none⟩ = some (.int .i64 lie) := blk_cell s0 4
          have f4 := Quiet.frozen_of s0 4
          have q5 : w'.cell? ⟨w1.heap.size, 5, none⟩ = some (.int .i64 pos) := blk_cell s0 5
          have f5 := Quiet.frozen_of s0 5
          have q6 : w'.cell? ⟨w1.heap.size, 6, none⟩ = some (.bool jm) := blk_cell s0 6
          have f6 := Quiet.frozen_of s0 6
          have q7 : w'.cell? ⟨w1.heap.size, 7, none⟩ = some (.bool cl) := blk_cell s0 7
          have f7 := Quiet.frozen_of s0 7
          have q8 : w'.cell? ⟨w1.heap.size, 8, none⟩ = some (.int .i64 n) := blk_cell s0 8
          have f8 := Quiet.frozen_of s0 8
          have q9 : w'.cell? ⟨w1.heap.size, 9, none⟩ = some (.bool fa) := blk_cell s0 9
          have f9 := Quiet.frozen_of s0 9
          have q10 : w'.cell? ⟨w1.heap.size, 10, none⟩ = some (.bool ca) := blk_cell s0 10
          have f10 := Quiet.frozen_of s0 10
          have b0_ : (w'.setCell ⟨w1.heap.size, 0, none⟩ (.bool r1)).heap[w1.heap.size]? = some (.cells #[.bool r1, .int .i64 ai, .int .i64 ao, .bool wg, .int .i64 lie, .int .i64 pos, .bool jm, .bool cl, .int .i64 n, .bool fa, .bool ca] 31 (0, 0)) := blk_put s0 0 (.bool r1) rfl
          have b1_ : ((w'.setCell ⟨w1.heap.size, 0, none⟩ (.bool r1)).setCell ⟨w1.heap.size, 1, none⟩ (.int .i64 r2)).heap[w1.heap.size]? = some (.cells #[.bool r1, .int .i64 r2, .int .i64 ao, .bool wg, .int .i64 lie, .int .i64 pos, .bool jm, .bool cl, .int .i64 n, .bool fa, .bool ca] 31 (0, 0)) := blk_put b0_ 1 (.int .i64 r2) rfl
          have b2_ : (((w'.setCell ⟨w1.heap.size, 0, none⟩ (.bool r1)).setCell ⟨w1.heap.size, 1, none⟩ (.int .i64 r2)).setCell ⟨w1.heap.size, 2, none⟩ (.int .i64 r3)).heap[w1.heap.size]? = some (.cells #[.bool r1, .int .i64 r2, .int .i64 r3, .bool wg, .int .i64 lie, .int .i64 pos, .bool jm, .bool cl, .int .i64 n, .bool fa, .bool ca] 31 (0, 0)) := blk_put b1_ 2 (.int .i64 r3) rfl
          have b3_ : ((((w'.setCell ⟨w1.heap.size, 0, none⟩ (.bool r1)).setCell ⟨w1.heap.size, 1, none⟩ (.int .i64 r2)).setCell ⟨w1.heap.size, 2, none⟩ (.int .i64 r3)).setCell ⟨w1.heap.size, 3, none⟩ (.bool r4)).heap[w1.heap.size]? = some (.cells #[.bool r1, .int .i64 r2, .int .i64 r3, .bool r4, .int .i64 lie, .int .i64 pos, .bool jm, .bool cl, .int .i64 n, .bool fa, .bool ca] 31 (0, 0)) := blk_put b2_ 3 (.bool r4) rfl
          have b4_ : (((((w'.setCell ⟨w1.heap.size, 0, none⟩ (.bool r1)).setCell ⟨w1.heap.size, 1, none⟩ (.int .i64 r2)).setCell ⟨w1.heap.size, 2, none⟩ (.int .i64 r3)).setCell ⟨w1.heap.size, 3, none⟩ (.bool r4)).setCell ⟨w1.heap.size, 4, none⟩ (.int .i64 r5)).heap[w1.heap.size]? = some (.cells #[.bool r1, .int .i64 r2, .int .i64 r3, .bool r4, .int .i64 r5, .int .i64 pos, .bool jm, .bool cl, .int .i64 n, .bool fa, .bool ca] 31 (0, 0)) := blk_put b3_ 4 (.int .i64 r5) rfl
          have b5_ : ((((((w'.setCell ⟨w1.heap.size, 0, none⟩ (.bool r1)).setCell ⟨w1.heap.size, 1, none⟩ (.int .i64 r2)).setCell ⟨w1.heap.size, 2, none⟩ (.int .i64 r3)).setCell ⟨w1.heap.size, 3, none⟩ (.bool r4)).setCell ⟨w1.heap.size, 4, none⟩ (.int .i64 r5)).setCell ⟨w1.heap.size, 5, none⟩ (.int .i64 r6)).heap[w1.heap.size]? = some (.cells #[.bool r1, .int .i64 r2, .int .i64 r3, .bool r4, .int .i64 r5, .int .i64 r6, .bool jm, .bool cl, .int .i64 n, .bool fa, .bool ca] 31 (0, 0)) := blk_put b4_ 5 (.int .i64 r6) rfl
          have b6_ : (((((((w'.setCell ⟨w1.heap.size, 0, none⟩ (.bool r1)).setCell ⟨w1.heap.size, 1, none⟩ (.int .i64 r2)).setCell ⟨w1.heap.size, 2, none⟩ (.int .i64 r3)).setCell ⟨w1.heap.size, 3, none⟩ (.bool r4)).setCell ⟨w1.heap.size, 4, none⟩ (.int .i64 r5)).setCell ⟨w1.heap.size, 5, none⟩ (.int .i64 r6)).setCell ⟨w1.heap.size, 6, none⟩ (.bool r7)).heap[w1.heap.size]? = some (.cells #[.bool r1, .int .i64 r2, .int .i64 r3, .bool r4, .int .i64 r5, .int .i64 r6, .bool r7, .bool cl, .int .i64 n, .bool fa, .bool ca] 31 (0, 0)) := blk_put b5_ 6 (.bool r7) rfl
          have b7_ : ((((((((w'.setCell ⟨w1.heap.size, 0, none⟩ (.bool r1)).setCell ⟨w1.heap.size, 1, none⟩ (.int .i64 r2)).setCell ⟨w1.heap.size, 2, none⟩ (.int .i64 r3)).setCell ⟨w1.heap.size, 3, none⟩ (.bool r4)).setCell ⟨w1.heap.size, 4, none⟩ (.int .i64 r5)).setCell ⟨w1.heap.size, 5, none⟩ (.int .i64 r6)).setCell ⟨w1.heap.size, 6, none⟩ (.bool r7)).setCell ⟨w1.heap.size, 7, none⟩ (.bool r8)).heap[w1.heap.size]? = some (.cells #[.bool r1, .int .i64 r2, .int .i64 r3, .bool r4, .int .i64 r5, .int .i64 r6, .bool r7, .bool r8, .int .i64 n, .bool fa, .bool ca] 31 (0, 0)) := blk_put b6_ 7 (.bool r8) rfl
          have b8_ : (((((((((w'.setCell ⟨w1.heap.size, 0, none⟩ (.bool r1)).setCell ⟨w1.heap.size, 1, none⟩ (.int .i64 r2)).setCell ⟨w1.heap.size, 2, none⟩ (.int .i64 r3)).setCell ⟨w1.heap.size, 3, none⟩ (.bool r4)).setCell ⟨w1.heap.size, 4, none⟩ (.int .i64 r5)).setCell ⟨w1.heap.size, 5, none⟩ (.int .i64 r6)).setCell ⟨w1.heap.size, 6, none⟩ (.bool r7)).setCell ⟨w1.heap.size, 7, none⟩ (.bool r8)).setCell ⟨w1.heap.size, 8, none⟩ (.int .i64 r9)).heap[w1.heap.size]? = some (.cells #[.bool r1, .int .i64 r2, .int .i64 r3, .bool r4, .int .i64 r5, .int .i64 r6, .bool r7, .bool r8, .int .i64 r9, .bool fa, .bool ca] 31 (0, 0)) := blk_put b7_ 8 (.int .i64 r9) rfl
          have b9_ : ((((((((((w'.setCell ⟨w1.heap.size, 0, none⟩ (.bool r1)).setCell ⟨w1.heap.size, 1, none⟩ (.int .i64 r2)).setCell ⟨w1.heap.size, 2, none⟩ (.int .i64 r3)).setCell ⟨w1.heap.size, 3, none⟩ (.bool r4)).setCell ⟨w1.heap.size, 4, none⟩ (.int .i64 r5)).setCell ⟨w1.heap.size, 5, none⟩ (.int .i64 r6)).setCell ⟨w1.heap.size, 6, none⟩ (.bool r7)).setCell ⟨w1.heap.size, 7, none⟩ (.bool r8)).setCell ⟨w1.heap.size, 8, none⟩ (.int .i64 r9)).setCell ⟨w1.heap.size, 9, none⟩ (.bool r10)).heap[w1.heap.size]? = some (.cells #[.bool r1, .int .i64 r2, .int .i64 r3, .bool r4, .int .i64 r5, .int .i64 r6, .bool r7, .bool r8, .int .i64 r9, .bool r10, .bool ca] 31 (0, 0)) := blk_put b8_ 9 (.bool r10) rfl
          have BK5 : (((((((((((w'.setCell ⟨w1.heap.size, 0, none⟩ (.bool r1)).setCell ⟨w1.heap.size, 1, none⟩ (.int .i64 r2)).setCell ⟨w1.heap.size, 2, none⟩ (.int .i64 r3)).setCell ⟨w1.heap.size, 3, none⟩ (.bool r4)).setCell ⟨w1.heap.size, 4, none⟩ (.int .i64 r5)).setCell ⟨w1.heap.size, 5, none⟩ (.int .i64 r6)).setCell ⟨w1.heap.size, 6, none⟩ (.bool r7)).setCell ⟨w1.heap.size, 7, none⟩ (.bool r8)).setCell ⟨w1.heap.size, 8, none⟩ (.int .i64 r9)).setCell ⟨w1.heap.size, 9, none⟩ (.bool r10)).setCell ⟨w1.heap.size, 10, none⟩ (.bool r11)).heap[w1.heap.size]? = some (.cells #[.bool r1, .int .i64 r2, .int .i64 r3, .bool r4, .int .i64 r5, .int .i64 r6, .bool r7, .bool r8, .int .i64 r9, .bool r10, .bool r11] 31 (0, 0)) := blk_put b9_ 10 (.bool r11) rfl
          clear b0_ b1_ b2_ b3_ b4_ b5_ b6_ b7_ b8_ b9_
          have B5 := (Quiet.Bel.set (k := 10) (v := .bool r11) (Quiet.Bel.set (k := 9) (v := .bool r10) (Quiet.Bel.set (k := 8) (v := .int .i64 r9) (Quiet.Bel.set (k := 7) (v := .bool r8) (Quiet.Bel.set (k := 6) (v := .bool r7) (Quiet.Bel.set (k := 5) (v := .int .i64 r6) (Quiet.Bel.set (k := 4) (v := .int .i64 r5) (Quiet.Bel.set (k := 3) (v := .bool r4) (Quiet.Bel.set (k := 2) (v := .int .i64 r3) (Quiet.Bel.set (k := 1) (v := .int .i64 r2) (Quiet.Bel.set (k := 0) (v := .bool r1) (Quiet.Bel.out HB.out hW0 hbel) (Nat.le_of_lt HS.out)) (Nat.le_of_lt HS.out)) (Nat.le_of_lt HS.out)) (Nat.le_of_lt HS.out)) (Nat.le_of_lt HS.out)) (Nat.le_of_lt HS.out)) (Nat.le_of_lt HS.out)) (Nat.le_of_lt HS.out)) (Nat.le_of_lt HS.out)) (Nat.le_of_lt HS.out)) (Nat.le_of_lt HS.out))
          have hne : w.heap.size ≠ w1.heap.size := by have := HS.out; omega
          have hne2 : (ad.add (i.toNat * 5)).block ≠ w1.heap.size := by have h1 : (ad.add (i.toNat * 5)).block < w.heap.size := AD.out; have h2 := HS.out; omega
          have D5 := (blk_far (blk_far (blk_far (blk_far (blk_far (blk_far (blk_far (blk_far (blk_far (blk_far (blk_far s1 (p := ⟨w1.heap.size, 0, none⟩) hne (.bool r1)) (p := ⟨w1.heap.size, 1, none⟩) hne (.int .i64 r2)) (p := ⟨w1.heap.size, 2, none⟩) hne (.int .i64 r3)) (p := ⟨w1.heap.size, 3, none⟩) hne (.bool r4)) (p := ⟨w1.heap.size, 4, none⟩) hne (.int .i64 r5)) (p := ⟨w1.heap.size, 5, none⟩) hne (.int .i64 r6)) (p := ⟨w1.heap.size, 6, none⟩) hne (.bool r7)) (p := ⟨w1.heap.size, 7, none⟩) hne (.bool r8)) (p := ⟨w1.heap.size, 8, none⟩) hne (.int .i64 r9)) (p := ⟨w1.heap.size, 9, none⟩) hne (.bool r10)) (p := ⟨w1.heap.size, 10, none⟩) hne (.bool r11))
          have E0 : (((((((((((w'.setCell ⟨w1.heap.size, 0, none⟩ (.bool r1)).setCell ⟨w1.heap.size, 1, none⟩ (.int .i64 r2)).setCell ⟨w1.heap.size, 2, none⟩ (.int .i64 r3)).setCell ⟨w1.heap.size, 3, none⟩ (.bool r4)).setCell ⟨w1.heap.size, 4, none⟩ (.int .i64 r5)).setCell ⟨w1.heap.size, 5, none⟩ (.int .i64 r6)).setCell ⟨w1.heap.size, 6, none⟩ (.bool r7)).setCell ⟨w1.heap.size, 7, none⟩ (.bool r8)).setCell ⟨w1.heap.size, 8, none⟩ (.int .i64 r9)).setCell ⟨w1.heap.size, 9, none⟩ (.bool r10)).setCell ⟨w1.heap.size, 10, none⟩ (.bool r11)).cell? (ad.add (i.toNat * 5)) = some (.bool fr) := ((cell_off hne2).trans ((cell_off hne2).trans ((cell_off hne2).trans ((cell_off hne2).trans ((cell_off hne2).trans ((cell_off hne2).trans ((cell_off hne2).trans ((cell_off hne2).trans ((cell_off hne2).trans ((cell_off hne2).trans ((cell_off hne2).trans s2)))))))))))
          have E1 : (((((((((((w'.setCell ⟨w1.heap.size, 0, none⟩ (.bool r1)).setCell ⟨w1.heap.size, 1, none⟩ (.int .i64 r2)).setCell ⟨w1.heap.size, 2, none⟩ (.int .i64 r3)).setCell ⟨w1.heap.size, 3, none⟩ (.bool r4)).setCell ⟨w1.heap.size, 4, none⟩ (.int .i64 r5)).setCell ⟨w1.heap.size, 5, none⟩ (.int .i64 r6)).setCell ⟨w1.heap.size, 6, none⟩ (.bool r7)).setCell ⟨w1.heap.size, 7, none⟩ (.bool r8)).setCell ⟨w1.heap.size, 8, none⟩ (.int .i64 r9)).setCell ⟨w1.heap.size, 9, none⟩ (.bool r10)).setCell ⟨w1.heap.size, 10, none⟩ (.bool r11)).cell? ⟨(ad.add (i.toNat * 5)).block, (ad.add (i.toNat * 5)).off + 1, none⟩ = some (.int .i64 ci) := ((cell_off hne2).trans ((cell_off hne2).trans ((cell_off hne2).trans ((cell_off hne2).trans ((cell_off hne2).trans ((cell_off hne2).trans ((cell_off hne2).trans ((cell_off hne2).trans ((cell_off hne2).trans ((cell_off hne2).trans ((cell_off hne2).trans s3)))))))))))
          have E2 : (((((((((((w'.setCell ⟨w1.heap.size, 0, none⟩ (.bool r1)).setCell ⟨w1.heap.size, 1, none⟩ (.int .i64 r2)).setCell ⟨w1.heap.size, 2, none⟩ (.int .i64 r3)).setCell ⟨w1.heap.size, 3, none⟩ (.bool r4)).setCell ⟨w1.heap.size, 4, none⟩ (.int .i64 r5)).setCell ⟨w1.heap.size, 5, none⟩ (.int .i64 r6)).setCell ⟨w1.heap.size, 6, none⟩ (.bool r7)).setCell ⟨w1.heap.size, 7, none⟩ (.bool r8)).setCell ⟨w1.heap.size, 8, none⟩ (.int .i64 r9)).setCell ⟨w1.heap.size, 9, none⟩ (.bool r10)).setCell ⟨w1.heap.size, 10, none⟩ (.bool r11)).cell? ⟨(ad.add (i.toNat * 5)).block, (ad.add (i.toNat * 5)).off + 2, none⟩ = some (.int .i64 co) := ((cell_off hne2).trans ((cell_off hne2).trans ((cell_off hne2).trans ((cell_off hne2).trans ((cell_off hne2).trans ((cell_off hne2).trans ((cell_off hne2).trans ((cell_off hne2).trans ((cell_off hne2).trans ((cell_off hne2).trans ((cell_off hne2).trans s4)))))))))))
          have E3 : (((((((((((w'.setCell ⟨w1.heap.size, 0, none⟩ (.bool r1)).setCell ⟨w1.heap.size, 1, none⟩ (.int .i64 r2)).setCell ⟨w1.heap.size, 2, none⟩ (.int .i64 r3)).setCell ⟨w1.heap.size, 3, none⟩ (.bool r4)).setCell ⟨w1.heap.size, 4, none⟩ (.int .i64 r5)).setCell ⟨w1.heap.size, 5, none⟩ (.int .i64 r6)).setCell ⟨w1.heap.size, 6, none⟩ (.bool r7)).setCell ⟨w1.heap.size, 7, none⟩ (.bool r8)).setCell ⟨w1.heap.size, 8, none⟩ (.int .i64 r9)).setCell ⟨w1.heap.size, 9, none⟩ (.bool r10)).setCell ⟨w1.heap.size, 10, none⟩ (.bool r11)).cell? ⟨(ad.add (i.toNat * 5)).block, (ad.add (i.toNat * 5)).off + 3, none⟩ = some (.int .i64 cc) := ((cell_off hne2).trans ((cell_off hne2).trans ((cell_off hne2).trans ((cell_off hne2).trans ((cell_off hne2).trans ((cell_off hne2).trans ((cell_off hne2).trans ((cell_off hne2).trans ((cell_off hne2).trans ((cell_off hne2).trans ((cell_off hne2).trans s5)))))))))))
          have E4 : (((((((((((w'.setCell ⟨w1.heap.size, 0, none⟩ (.bool r1)).setCell ⟨w1.heap.size, 1, none⟩ (.int .i64 r2)).setCell ⟨w1.heap.size, 2, none⟩ (.int .i64 r3)).setCell ⟨w1.heap.size, 3, none⟩ (.bool r4)).setCell ⟨w1.heap.size, 4, none⟩ (.int .i64 r5)).setCell ⟨w1.heap.size, 5, none⟩ (.int .i64 r6)).setCell ⟨w1.heap.size, 6, none⟩ (.bool r7)).setCell ⟨w1.heap.size, 7, none⟩ (.bool r8)).setCell ⟨w1.heap.size, 8, none⟩ (.int .i64 r9)).setCell ⟨w1.heap.size, 9, none⟩ (.bool r10)).setCell ⟨w1.heap.size, 10, none⟩ (.bool r11)).cell? ⟨(ad.add (i.toNat * 5)).block, (ad.add (i.toNat * 5)).off + 4, none⟩ = some (.int .i64 cb) := ((cell_off hne2).trans ((cell_off hne2).trans ((cell_off hne2).trans ((cell_off hne2).trans ((cell_off hne2).trans ((cell_off hne2).trans ((cell_off hne2).trans ((cell_off hne2).trans ((cell_off hne2).trans ((cell_off hne2).trans ((cell_off hne2).trans s6)))))))))))
          simp only [List.take_succ_cons, List.take_zero, List.eraseIdx_cons_succ, List.eraseIdx_cons_zero, List.drop_succ_cons, List.drop_zero, Act.put, List.setIfInBounds_toArray, List.set_cons_zero, List.set_cons_succ]
          clear hbel s0 s1 s2 s3 s4 s5 s6 s7
          refine store_event rfl rfl rfl (w1 := (((((((((((w'.setCell ⟨w1.heap.size, 0, none⟩ (.bool r1)).setCell ⟨w1.heap.size, 1, none⟩ (.int .i64 r2)).setCell ⟨w1.heap.size, 2, none⟩ (.int .i64 r3)).setCell ⟨w1.heap.size, 3, none⟩ (.bool r4)).setCell ⟨w1.heap.size, 4, none⟩ (.int .i64 r5)).setCell ⟨w1.heap.size, 5, none⟩ (.int .i64 r6)).setCell ⟨w1.heap.size, 6, none⟩ (.bool r7)).setCell ⟨w1.heap.size, 7, none⟩ (.bool r8)).setCell ⟨w1.heap.size, 8, none⟩ (.int .i64 r9)).setCell ⟨w1.heap.size, 9, none⟩ (.bool r10)).setCell ⟨w1.heap.size, 10, none⟩ (.bool r11))) (by go_simp) ?_
          intro w5 hw5
          rw [← hw5] at BK5 B5 D5 E0 E1 E2 E3 E4
          clear hw5 q0 f0 q1 f1 q2 f2 q3 f3 q4 f4 q5 f5 q6 f6 q7 f7 q8 f8 q9 f9 q10 f10 hne2 hne
          have GBK5 := Aside0.mk BK5
          have GB5 := Aside0.mk B5
          have GD5 := Aside0.mk D5
          have GE := Aside0.mk (And.intro E0 (And.intro E1 (And.intro E2 (And.intro E3 E4))))
          clear BK5 B5 D5 E0 E1 E2 E3 E4
          go_wp2_with fail
          go_meet
          case rel => exact ⟨r1, r2, r3, r4, r5, r6, r7, r8, r9, r10, r11, HFIT, GBK5, GD5, GB5, GE⟩
        · have c5b : decide (i < (l2.length : Int)) = false := decide_eq_false c5
          clear c5
          obtain ⟨r1, r2, r3, r4, r5, r6, r7, r8, r9, r10, r11, hst, hfit⟩ := fits h ai ao wg lie pos jm cl n fa ca fr ci co cc cb d0 d1 d2 false (by have := HI.out; have := HL.out; omega)
          have HST := Aside0.mk hst
          have HFIT := Aside0.mk hfit
          clear hst hfit
          apply Quiet.tail (S := (fun w' => w'.heap[w1.heap.size]? = some (.cells #[.bool h, .int .i64 ai, .int .i64 ao, .bool wg, .int .i64 lie, .int .i64 pos, .bool jm, .bool cl, .int .i64 n, .bool fa, .bool ca] 31) ∧ w'.heap[w.heap.size]? = some (.cells #[.int .i64 d0, .int .i64 d1, .int .i64 d2] 23) ∧ w'.cell? (ad.add (i.toNat * 5)) = some (.bool fr) ∧ w'.cell? ⟨(ad.add (i.toNat * 5)).block, (ad.add (i.toNat * 5)).off + 1, none⟩ = some (.int .i64 ci) ∧ w'.cell? ⟨(ad.add (i.toNat * 5)).block, (ad.add (i.toNat * 5)).off + 2, none⟩ = some (.int .i64 co) ∧ w'.cell? ⟨(ad.add (i.toNat * 5)).block, (ad.add (i.toNat * 5)).off + 3, none⟩ = some (.int .i64 cc) ∧ w'.cell? ⟨(ad.add (i.toNat * 5)).block, (ad.add (i.toNat * 5)).off + 4, none⟩ = some (.int .i64 cb))) (n := 17) (hm := by kernel_rfl) (hB := by kernel_rfl) (hz := by kernel_rfl) (hS := fun w' hw => ⟨blk_bel HBK.out hw, blk_bel HDK.out hw, Quiet.Bel.cellA hw HH0.out, Quiet.Bel.cellA hw HH1.out, Quiet.Bel.cellA hw HH2.out, Quiet.Bel.cellA hw HH3.out, Quiet.Bel.cellA hw HH4.out⟩)
          case h =>
            intro W1 hcell
            simp only [List.take_succ_cons, List.take_zero, List.eraseIdx_cons_succ, List.eraseIdx_cons_zero, List.drop_succ_cons, List.drop_zero]
            repeat (first
              | go_big_quiet_skip
              | (go_big_quiet_want; go_big_quiet_op; go_big_quiet_on)
              | (refine Quiet.val _ _ (by rfl) (by (intro w' hC; obtain ⟨s0, s1, s2, s3, s4, s5, s6⟩ := hcell w' hC; have x0 : w'.cell? ⟨w1.heap.size, 0, none⟩ = some (.bool h) := blk_cell s0 0; have x1 : w'.cell? ⟨w1.heap.size, 1, none⟩ = some (.int .i64 ai) := blk_cell s0 1; have x2 : w'.cell? ⟨w1.heap.size, 2, none⟩ = some (.int .i64 ao) := blk_cell s0 2; have x3 : w'.cell? ⟨w1.heap.size, 3, none⟩ = some (.bool wg) := blk_cell s0 3; have x4 : w'.cell? ⟨w1.heap.size, 4, none⟩ = some (.int .i64 lie) := blk_cell s0 4; have x5 : w'.cell? ⟨w1.heap.size, 5, none⟩ = some (.int .i64 pos) := blk_cell s0 5; have x6 : w'.cell? ⟨w1.heap.size, 6, none⟩ = some (.bool jm) := blk_cell s0 6; have x7 : w'.cell? ⟨w1.heap.size, 7, none⟩ = some (.bool cl) := blk_cell s0 7; have x8 : w'.cell? ⟨w1.heap.size, 8, none⟩ = some (.int .i64 n) := blk_cell s0 8; have x9 : w'.cell? ⟨w1.heap.size, 9, none⟩ = some (.bool fa) := blk_cell s0 9; have x10 : w'.cell? ⟨w1.heap.size, 10, none⟩ = some (.bool ca) := blk_cell s0 10; have y0 : w'.cell? ⟨w.heap.size, 0, none⟩ = some (.int .i64 d0) := blk_cell s1 0; have y1 : w'.cell? ⟨w.heap.size, 1, none⟩ = some (.int .i64 d1) := blk_cell s1 1; have y2 : w'.cell? ⟨w.heap.size, 2, none⟩ = some (.int .i64 d2) := blk_cell s1 2; clear s0 s1; go_simp; with_reducible rfl)) (by (simp only [Act.put, List.setIfInBounds_toArray, List.set_cons_zero, List.set_cons_succ]; rfl)) ?_)
              | (refine Quiet.call (args := #[.agg #[.bool h, .int .i64 ai, .int .i64 ao, .bool wg, .int .i64 lie, .int .i64 pos, .bool jm, .bool cl, .int .i64 n, .bool fa, .bool ca], .agg #[.bool fr, .int .i64 ci, .int .i64 co, .int .i64 cc, .int .i64 cb], .agg #[.int .i64 d0, .int .i64 d1, .int .i64 d2], .bool false]) _ _ (by rfl) (by rfl) Try.func14 (by kernel_rfl) rfl (by simp only [List.map_toArray, List.map_cons, List.map_nil]; rfl) (fun w' hC => track_Step.calls 4 h ai ao wg lie pos jm cl n fa ca fr ci co cc cb d0 d1 d2 false r1 r2 r3 r4 r5 r6 r7 r8 r9 r10 r11 w' HST.out) (by (simp only [Act.put, List.setIfInBounds_toArray, List.set_cons_zero, List.set_cons_succ]; rfl)) ?_))
            exact Quiet.done rfl
          intro W0 hW0 w' hbel hS
          obtain ⟨s0, s1, s2, s3, s4, s5, s6⟩ := hS
          have q0 : w'.cell? ⟨w1.heap.size, 0, none⟩ = some (.bool h) := blk_cell s0 0
          have f0 := Quiet.frozen_of s0 0
          have q1 : w'.cell? ⟨w1.heap.size, 1, none⟩ = some (.int .i64 ai) := blk_cell s0 1
          have f1 := Quiet.frozen_of s0 1
          have q2 : w'.cell? ⟨w1.heap.size, 2, none⟩ = some (.int .i64 ao) := blk_cell s0 2
          have f2 := Quiet.frozen_of s0 2
          have q3 : w'.cell? ⟨w1.heap.size, 3, none⟩ = some (.bool wg) := blk_cell s0 3
          have f3 := Quiet.frozen_of s0 3
          have q4 : w'.cell? ⟨w1.heap.size, 4, none⟩ = some (.int .i64 lie) := blk_cell s0 4
          have f4 := Quiet.frozen_of s0 4
          have q5 : w'.cell? ⟨w1.heap.size, 5, none⟩ = some (.int .i64 pos) := blk_cell s0 5
          have f5 := Quiet.frozen_of s0 5
          have q6 : w'.cell? ⟨w1.heap.size, 6, none⟩ = some (.bool jm) := blk_cell s0 6
          have f6 := Quiet.frozen_of s0 6
          have q7 : w'.cell? ⟨w1.heap.size, 7, none⟩ = some (.bool cl) := blk_cell s0 7
          have f7 := Quiet.frozen_of s0 7
          have q8 : w'.cell? ⟨w1.heap.size, 8, none⟩ = some (.int .i64 n) := blk_cell s0 8
          have f8 := Quiet.frozen_of s0 8
          have q9 : w'.cell? ⟨w1.heap.size, 9, none⟩ = some (.bool fa) := blk_cell s0 9
          have f9 := Quiet.frozen_of s0 9
          have q10 : w'.cell? ⟨w1.heap.size, 10, none⟩ = some (.bool ca) := blk_cell s0 10
          have f10 := Quiet.frozen_of s0 10
          have b0_ : (w'.setCell ⟨w1.heap.size, 0, none⟩ (.bool r1)).heap[w1.heap.size]? = some (.cells #[.bool r1, .int .i64 ai, .int .i64 ao, .bool wg, .int .i64 lie, .int .i64 pos, .bool jm, .bool cl, .int .i64 n, .bool fa, .bool ca] 31 (0, 0)) := blk_put s0 0 (.bool r1) rfl
          have b1_ : ((w'.setCell ⟨w1.heap.size, 0, none⟩ (.bool r1)).setCell ⟨w1.heap.size, 1, none⟩ (.int .i64 r2)).heap[w1.heap.size]? = some (.cells #[.bool r1, .int .i64 r2, .int .i64 ao, .bool wg, .int .i64 lie, .int .i64 pos, .bool jm, .bool cl, .int .i64 n, .bool fa, .bool ca] 31 (0, 0)) := blk_put b0_ 1 (.int .i64 r2) rfl
          have b2_ : (((w'.setCell ⟨w1.heap.size, 0, none⟩ (.bool r1)).setCell ⟨w1.heap.size, 1, none⟩ (.int .i64 r2)).setCell ⟨w1.heap.size, 2, none⟩ (.int .i64 r3)).heap[w1.heap.size]? = some (.cells #[.bool r1, .int .i64 r2, .int .i64 r3, .bool wg, .int .i64 lie, .int .i64 pos, .bool jm, .bool cl, .int .i64 n, .bool fa, .bool ca] 31 (0, 0)) := blk_put b1_ 2 (.int .i64 r3) rfl
          have b3_ : ((((w'.setCell ⟨w1.heap.size, 0, none⟩ (.bool r1)).setCell ⟨w1.heap.size, 1, none⟩ (.int .i64 r2)).setCell ⟨w1.heap.size, 2, none⟩ (.int .i64 r3)).setCell ⟨w1.heap.size, 3, none⟩ (.bool r4)).heap[w1.heap.size]? = some (.cells #[.bool r1, .int .i64 r2, .int .i64 r3, .bool r4, .int .i64 lie, .int .i64 pos, .bool jm, .bool cl, .int .i64 n, .bool fa, .bool ca] 31 (0, 0)) := blk_put b2_ 3 (.bool r4) rfl
          have b4_ : (((((w'.setCell ⟨w1.heap.size, 0, none⟩ (.bool r1)).setCell ⟨w1.heap.size, 1, none⟩ (.int .i64 r2)).setCell ⟨w1.heap.size, 2, none⟩ (.int .i64 r3)).setCell ⟨w1.heap.size, 3, none⟩ (.bool r4)).setCell ⟨w1.heap.size, 4, none⟩ (.int .i64 r5)).heap[w1.heap.size]? = some (.cells #[.bool r1, .int .i64 r2, .int .i64 r3, .bool r4, .int .i64 r5, .int .i64 pos, .bool jm, .bool cl, .int .i64 n, .bool fa, .bool ca] 31 (0, 0)) := blk_put b3_ 4 (.int .i64 r5) rfl
          have b5_ : ((((((w'.setCell ⟨w1.heap.size, 0, none⟩ (.bool r1)).setCell ⟨w1.heap.size, 1, none⟩ (.int .i64 r2)).setCell ⟨w1.heap.size, 2, none⟩ (.int .i64 r3)).setCell ⟨w1.heap.size, 3, none⟩ (.bool r4)).setCell ⟨w1.heap.size, 4, none⟩ (.int .i64 r5)).setCell ⟨w1.heap.size, 5, none⟩ (.int .i64 r6)).heap[w1.heap.size]? = some (.cells #[.bool r1, .int .i64 r2, .int .i64 r3, .bool r4, .int .i64 r5, .int .i64 r6, .bool jm, .bool cl, .int .i64 n, .bool fa, .bool ca] 31 (0, 0)) := blk_put b4_ 5 (.int .i64 r6) rfl
          have b6_ : (((((((w'.setCell ⟨w1.heap.size, 0, none⟩ (.bool r1)).setCell ⟨w1.heap.size, 1, none⟩ (.int .i64 r2)).setCell ⟨w1.heap.size, 2, none⟩ (.int .i64 r3)).setCell ⟨w1.heap.size, 3, none⟩ (.bool r4)).setCell ⟨w1.heap.size, 4, none⟩ (.int .i64 r5)).setCell ⟨w1.heap.size, 5, none⟩ (.int .i64 r6)).setCell ⟨w1.heap.size, 6, none⟩ (.bool r7)).heap[w1.heap.size]? = some (.cells #[.bool r1, .int .i64 r2, .int .i64 r3, .bool r4, .int .i64 r5, .int .i64 r6, .bool r7, .bool cl, .int .i64 n, .bool fa, .bool ca] 31 (0, 0)) := blk_put b5_ 6 (.bool r7) rfl
          have b7_ : ((((((((w'.setCell ⟨w1.heap.size, 0, none⟩ (.bool r1)).setCell ⟨w1.heap.size, 1, none⟩ (.int .i64 r2)).setCell ⟨w1.heap.size, 2, none⟩ (.int .i64 r3)).setCell ⟨w1.heap.size, 3, none⟩ (.bool r4)).setCell ⟨w1.heap.size, 4, none⟩ (.int .i64 r5)).setCell ⟨w1.heap.size, 5, none⟩ (.int .i64 r6)).setCell ⟨w1.heap.size, 6, none⟩ (.bool r7)).setCell ⟨w1.heap.size, 7, none⟩ (.bool r8)).heap[w1.heap.size]? = some (.cells #[.bool r1, .int .i64 r2, .int .i64 r3, .bool r4, .int .i64 r5, .int .i64 r6, .bool r7, .bool r8, .int .i64 n, .bool fa, .bool ca] 31 (0, 0)) := blk_put b6_ 7 (.bool r8) rfl
          have b8_ : (((((((((w'.setCell ⟨w1.heap.size, 0, none⟩ (.bool r1)).setCell ⟨w1.heap.size, 1, none⟩ (.int .i64 r2)).setCell ⟨w1.heap.size, 2, none⟩ (.int .i64 r3)).setCell ⟨w1.heap.size, 3, none⟩ (.bool r4)).setCell ⟨w1.heap.size, 4, none⟩ (.int .i64 r5)).setCell ⟨w1.heap.size, 5, none⟩ (.int .i64 r6)).setCell ⟨w1.heap.size, 6, none⟩ (.bool r7)).setCell ⟨w1.heap.size, 7, none⟩ (.bool r8)).setCell ⟨w1.heap.size, 8, none⟩ (.int .i64 r9)).heap[w1.heap.size]? = some (.cells #[.bool r1, .int .i64 r2, .int .i64 r3, .bool r4, .int .i64 r5, .int .i64 r6, .bool r7, .bool r8, .int .i64 r9, .bool fa, .bool ca] 31 (0, 0)) := blk_put b7_ 8 (.int .i64 r9) rfl
          have b9_ : ((((((((((w'.setCell ⟨w1.heap.size, 0, none⟩ (.bool r1)).setCell ⟨w1.heap.size, 1, none⟩ (.int .i64 r2)).setCell ⟨w1.heap.size, 2, none⟩ (.int .i64 r3)).setCell ⟨w1.heap.size, 3, none⟩ (.bool r4)).setCell ⟨w1.heap.size, 4, none⟩ (.int .i64 r5)).setCell ⟨w1.heap.size, 5, none⟩ (.int .i64 r6)).setCell ⟨w1.heap.size, 6, none⟩ (.bool r7)).setCell ⟨w1.heap.size, 7, none⟩ (.bool r8)).setCell ⟨w1.heap.size, 8, none⟩ (.int .i64 r9)).setCell ⟨w1.heap.size, 9, none⟩ (.bool r10)).heap[w1.heap.size]? = some (.cells #[.bool r1, .int .i64 r2, .int .i64 r3, .bool r4, .int .i64 r5, .int .i64 r6, .bool r7, .bool r8, .int .i64 r9, .bool r10, .bool ca] 31 (0, 0)) := blk_put b8_ 9 (.bool r10) rfl
          have BK5 : (((((((((((w'.setCell ⟨w1.heap.size, 0, none⟩ (.bool r1)).setCell ⟨w1.heap.size, 1, none⟩ (.int .i64 r2)).setCell ⟨w1.heap.size, 2, none⟩ (.int .i64 r3)).setCell ⟨w1.heap.size, 3, none⟩ (.bool r4)).setCell ⟨w1.heap.size, 4, none⟩ (.int .i64 r5)).setCell ⟨w1.heap.size, 5, none⟩ (.int .i64 r6)).setCell ⟨w1.heap.size, 6, none⟩ (.bool r7)).setCell ⟨w1.heap.size, 7, none⟩ (.bool r8)).setCell ⟨w1.heap.size, 8, none⟩ (.int .i64 r9)).setCell ⟨w1.heap.size, 9, none⟩ (.bool r10)).setCell ⟨w1.heap.size, 10, none⟩ (.bool r11)).heap[w1.heap.size]? = some (.cells #[.bool r1, .int .i64 r2, .int .i64 r3, .bool r4, .int .i64 r5, .int .i64 r6, .bool r7, .bool r8, .int .i64 r9, .bool r10, .bool r11] 31 (0, 0)) := blk_put b9_ 10 (.bool r11) rfl
          clear b0_ b1_ b2_ b3_ b4_ b5_ b6_ b7_ b8_ b9_
          have B5 := (Quiet.Bel.set (k := 10) (v := .bool r11) (Quiet.Bel.set (k := 9) (v := .bool r10) (Quiet.Bel.set (k := 8) (v := .int .i64 r9) (Quiet.Bel.set (k := 7) (v := .bool r8) (Quiet.Bel.set (k := 6) (v := .bool r7) (Quiet.Bel.set (k := 5) (v := .int .i64 r6) (Quiet.Bel.set (k := 4) (v := .int .i64 r5) (Quiet.Bel.set (k := 3) (v := .bool r4) (Quiet.Bel.set (k := 2) (v := .int .i64 r3) (Quiet.Bel.set (k := 1) (v := .int .i64 r2) (Quiet.Bel.set (k := 0) (v := .bool r1) (Quiet.Bel.out HB.out hW0 hbel) (Nat.le_of_lt HS.out)) (Nat.le_of_lt HS.out)) (Nat.le_of_lt HS.out)) (Nat.le_of_lt HS.out)) (Nat.le_of_lt HS.out)) (Nat.le_of_lt HS.out)) (Nat.le_of_lt HS.out)) (Nat.le_of_lt HS.out)) (Nat.le_of_lt HS.out)) (Nat.le_of_lt HS.out)) (Nat.le_of_lt HS.out))
          have hne : w.heap.size ≠ w1.heap.size := by have := HS.out; omega
          have hne2 : (ad.add (i.toNat * 5)).block ≠ w1.heap.size := by have h1 : (ad.add (i.toNat * 5)).block < w.heap.size := AD.out; have h2 := HS.out; omega
          have D5 := (blk_far (blk_far (blk_far (blk_far (blk_far (blk_far (blk_far (blk_far (blk_far (blk_far (blk_far s1 (p := ⟨w1.heap.size, 0, none⟩) hne (.bool r1)) (p := ⟨w1.heap.size, 1, none⟩) hne (.int .i64 r2)) (p := ⟨w1.heap.size, 2, none⟩) hne (.int .i64 r3)) (p := ⟨w1.heap.size, 3, none⟩) hne (.bool r4)) (p := ⟨w1.heap.size, 4, none⟩) hne (.int .i64 r5)) (p := ⟨w1.heap.size, 5, none⟩) hne (.int .i64 r6)) (p := ⟨w1.heap.size, 6, none⟩) hne (.bool r7)) (p := ⟨w1.heap.size, 7, none⟩) hne (.bool r8)) (p := ⟨w1.heap.size, 8, none⟩) hne (.int .i64 r9)) (p := ⟨w1.heap.size, 9, none⟩) hne (.bool r10)) (p := ⟨w1.heap.size, 10, none⟩) hne (.bool r11))
          have E0 : (((((((((((w'.setCell ⟨w1.heap.size, 0, none⟩ (.bool r1)).setCell ⟨w1.heap.size, 1, none⟩ (.int .i64 r2)).setCell ⟨w1.heap.size, 2, none⟩ (.int .i64 r3)).setCell ⟨w1.heap.size, 3, none⟩ (.bool r4)).setCell ⟨w1.heap.size, 4, none⟩ (.int .i64 r5)).setCell ⟨w1.heap.size, 5, none⟩ (.int .i64 r6)).setCell ⟨w1.heap.size, 6, none⟩ (.bool r7)).setCell ⟨w1.heap.size, 7, none⟩ (.bool r8)).setCell ⟨w1.heap.size, 8, none⟩ (.int .i64 r9)).setCell ⟨w1.heap.size, 9, none⟩ (.bool r10)).setCell ⟨w1.heap.size, 10, none⟩ (.bool r11)).cell? (ad.add (i.toNat * 5)) = some (.bool fr) := ((cell_off hne2).trans ((cell_off hne2).trans ((cell_off hne2).trans ((cell_off hne2).trans ((cell_off hne2).trans ((cell_off hne2).trans ((cell_off hne2).trans ((cell_off hne2).trans ((cell_off hne2).trans ((cell_off hne2).trans ((cell_off hne2).trans s2)))))))))))
          have E1 : (((((((((((w'.setCell ⟨w1.heap.size, 0, none⟩ (.bool r1)).setCell ⟨w1.heap.size, 1, none⟩ (.int .i64 r2)).setCell ⟨w1.heap.size, 2, none⟩ (.int .i64 r3)).setCell ⟨w1.heap.size, 3, none⟩ (.bool r4)).setCell ⟨w1.heap.size, 4, none⟩ (.int .i64 r5)).setCell ⟨w1.heap.size, 5, none⟩ (.int .i64 r6)).setCell ⟨w1.heap.size, 6, none⟩ (.bool r7)).setCell ⟨w1.heap.size, 7, none⟩ (.bool r8)).setCell ⟨w1.heap.size, 8, none⟩ (.int .i64 r9)).setCell ⟨w1.heap.size, 9, none⟩ (.bool r10)).setCell ⟨w1.heap.size, 10, none⟩ (.bool r11)).cell? ⟨(ad.add (i.toNat * 5)).block, (ad.add (i.toNat * 5)).off + 1, none⟩ = some (.int .i64 ci) := ((cell_off hne2).trans ((cell_off hne2).trans ((cell_off hne2).trans ((cell_off hne2).trans ((cell_off hne2).trans ((cell_off hne2).trans ((cell_off hne2).trans ((cell_off hne2).trans ((cell_off hne2).trans ((cell_off hne2).trans ((cell_off hne2).trans s3)))))))))))
          have E2 : (((((((((((w'.setCell ⟨w1.heap.size, 0, none⟩ (.bool r1)).setCell ⟨w1.heap.size, 1, none⟩ (.int .i64 r2)).setCell ⟨w1.heap.size, 2, none⟩ (.int .i64 r3)).setCell ⟨w1.heap.size, 3, none⟩ (.bool r4)).setCell ⟨w1.heap.size, 4, none⟩ (.int .i64 r5)).setCell ⟨w1.heap.size, 5, none⟩ (.int .i64 r6)).setCell ⟨w1.heap.size, 6, none⟩ (.bool r7)).setCell ⟨w1.heap.size, 7, none⟩ (.bool r8)).setCell ⟨w1.heap.size, 8, none⟩ (.int .i64 r9)).setCell ⟨w1.heap.size, 9, none⟩ (.bool r10)).setCell ⟨w1.heap.size, 10, none⟩ (.bool r11)).cell? ⟨(ad.add (i.toNat * 5)).block, (ad.add (i.toNat * 5)).off + 2, none⟩ = some (.int .i64 co) := ((cell_off hne2).trans ((cell_off hne2).trans ((cell_off hne2).trans ((cell_off hne2).trans ((cell_off hne2).trans ((cell_off hne2).trans ((cell_off hne2).trans ((cell_off hne2).trans ((cell_off hne2).trans ((cell_off hne2).trans ((cell_off hne2).trans s4)))))))))))
          have E3 : (((((((((((w'.setCell ⟨w1.heap.size, 0, none⟩ (.bool r1)).setCell ⟨w1.heap.size, 1, none⟩ (.int .i64 r2)).setCell ⟨w1.heap.size, 2, none⟩ (.int .i64 r3)).setCell ⟨w1.heap.size, 3, none⟩ (.bool r4)).setCell ⟨w1.heap.size, 4, none⟩ (.int .i64 r5)).setCell ⟨w1.heap.size, 5, none⟩ (.int .i64 r6)).setCell ⟨w1.heap.size, 6, none⟩ (.bool r7)).setCell ⟨w1.heap.size, 7, none⟩ (.bool r8)).setCell ⟨w1.heap.size, 8, none⟩ (.int .i64 r9)).setCell ⟨w1.heap.size, 9, none⟩ (.bool r10)).setCell ⟨w1.heap.size, 10, none⟩ (.bool r11)).cell? ⟨(ad.add (i.toNat * 5)).block, (ad.add (i.toNat * 5)).off + 3, none⟩ = some (.int .i64 cc) := ((cell_off hne2).trans ((cell_off hne2).trans ((cell_off hne2).trans ((cell_off hne2).trans ((cell_off hne2).trans ((cell_off hne2).trans ((cell_off hne2).trans ((cell_off hne2).trans ((cell_off hne2).trans ((cell_off hne2).trans ((cell_off hne2).trans s5)))))))))))
          have E4 : (((((((((((w'.setCell ⟨w1.heap.size, 0, none⟩ (.bool r1)).setCell ⟨w1.heap.size, 1, none⟩ (.int .i64 r2)).setCell ⟨w1.heap.size, 2, none⟩ (.int .i64 r3)).setCell ⟨w1.heap.size, 3, none⟩ (.bool r4)).setCell ⟨w1.heap.size, 4, none⟩ (.int .i64 r5)).setCell ⟨w1.heap.size, 5, none⟩ (.int .i64 r6)).setCell ⟨w1.heap.size, 6, none⟩ (.bool r7)).setCell ⟨w1.heap.size, 7, none⟩ (.bool r8)).setCell ⟨w1.heap.size, 8, none⟩ (.int .i64 r9)).setCell ⟨w1.heap.size, 9, none⟩ (.bool r10)).setCell ⟨w1.heap.size, 10, none⟩ (.bool r11)).cell? ⟨(ad.add (i.toNat * 5)).block, (ad.add (i.toNat * 5)).off + 4, none⟩ = some (.int .i64 cb) := ((cell_off hne2).trans ((cell_off hne2).trans ((cell_off hne2).trans ((cell_off hne2).trans ((cell_off hne2).trans ((cell_off hne2).trans ((cell_off hne2).trans ((cell_off hne2).trans ((cell_off hne2).trans ((cell_off hne2).trans ((cell_off hne2).trans s6)))))))))))
          simp only [List.take_succ_cons, List.take_zero, List.eraseIdx_cons_succ, List.eraseIdx_cons_zero, List.drop_succ_cons, List.drop_zero, Act.put, List.setIfInBounds_toArray, List.set_cons_zero, List.set_cons_succ]
          clear hbel s0 s1 s2 s3 s4 s5 s6
          refine store_event rfl rfl rfl (w1 := (((((((((((w'.setCell ⟨w1.heap.size, 0, none⟩ (.bool r1)).setCell ⟨w1.heap.size, 1, none⟩ (.int .i64 r2)).setCell ⟨w1.heap.size, 2, none⟩ (.int .i64 r3)).setCell ⟨w1.heap.size, 3, none⟩ (.bool r4)).setCell ⟨w1.heap.size, 4, none⟩ (.int .i64 r5)).setCell ⟨w1.heap.size, 5, none⟩ (.int .i64 r6)).setCell ⟨w1.heap.size, 6, none⟩ (.bool r7)).setCell ⟨w1.heap.size, 7, none⟩ (.bool r8)).setCell ⟨w1.heap.size, 8, none⟩ (.int .i64 r9)).setCell ⟨w1.heap.size, 9, none⟩ (.bool r10)).setCell ⟨w1.heap.size, 10, none⟩ (.bool r11))) (by go_simp) ?_
          intro w5 hw5
          rw [← hw5] at BK5 B5 D5 E0 E1 E2 E3 E4
          clear hw5 q0 f0 q1 f1 q2 f2 q3 f3 q4 f4 q5 f5 q6 f6 q7 f7 q8 f8 q9 f9 q10 f10 hne2 hne
          have GBK5 := Aside0.mk BK5
          have GB5 := Aside0.mk B5
          have GD5 := Aside0.mk D5
          have GE := Aside0.mk (And.intro E0 (And.intro E1 (And.intro E2 (And.intro E3 E4))))
          clear BK5 B5 D5 E0 E1 E2 E3 E4
          go_wp2_with fail
          go_meet
          case rel => exact ⟨r1, r2, r3, r4, r5, r6, r7, r8, r9, r10, r11, HFIT, GBK5, GD5, GB5, GE⟩
      case rest =>
        clear HBK HDK HB HH0 HH1 HH2 HH3 HH4
        obtain ⟨r1, r2, r3, r4, r5, r6, r7, r8, r9, r10, r11, HFIT, HBK, HDK, HB, HE⟩ := hcut
        have key : (r8 = true ∧ fr = true ∧ r10 = false ∧ r11 = false ∧ r9 = 0 ∧ (bits .and .i64 (wrap64 (ci - co)) 255 != 0) = false ∧ (bits .and .i64 cb 3 != 0) = false) ∨ (r8 = false ∧ fr = true ∧ r9 = n + 1) ∨ (r8 = false ∧ fr = false ∧ r10 = true ∧ r11 = true ∧ r9 = n + 1) := by
          obtain ⟨f1, f2, f3⟩ := HFIT.out
          rw [Arith.and255, Arith.wrap_mod256, Arith.and3]
          cases r8
          · obtain ⟨f4, f5⟩ := f2 rfl
            cases fr
            · obtain ⟨_, f6, f7⟩ := f3 rfl
              exact Or.inr (Or.inr ⟨rfl, rfl, f6, f7, f4⟩)
            · exact Or.inr (Or.inl ⟨rfl, rfl, f4⟩)
          · obtain ⟨f4, f5, f6, f7, f8, f9⟩ := f1 rfl
            exact Or.inl ⟨rfl, f4, f5, f6, f7, by rw [f8]; rfl, by rw [f9]; rfl⟩
        have HK := Aside0.mk key
        clear key
        rcases HK.out with ⟨rfl, rfl, rfl, rfl, rfl, z1, z2⟩ | ⟨rfl, rfl, rfl⟩ | ⟨rfl, rfl, rfl, rfl, rfl⟩
        · clear HK
          go_wp2_with fail
          refine Quiet.start (fun w' => w'.heap[w1.heap.size]? = some (.cells #[.bool r1, .int .i64 r2, .int .i64 r3, .bool r4, .int .i64 r5, .int .i64 r6, .bool r7, .bool true, .int .i64 0, .bool false, .bool false] 31) ∧ w'.cell? (ad.add (i.toNat * 5)) = some (.bool true) ∧ w'.cell? ⟨(ad.add (i.toNat * 5)).block, (ad.add (i.toNat * 5)).off + 1, none⟩ = some (.int .i64 ci) ∧ w'.cell? ⟨(ad.add (i.toNat * 5)).block, (ad.add (i.toNat * 5)).off + 2, none⟩ = some (.int .i64 co) ∧ w'.cell? ⟨(ad.add (i.toNat * 5)).block, (ad.add (i.toNat * 5)).off + 3, none⟩ = some (.int .i64 cc) ∧ w'.cell? ⟨(ad.add (i.toNat * 5)).block, (ad.add (i.toNat * 5)).off + 4, none⟩ = some (.int .i64 cb)) (by kernel_rfl) (by kernel_rfl) (fun w' hw => ⟨blk_bel HBK.out hw, Quiet.Bel.cellA hw HE.out.1, Quiet.Bel.cellA hw HE.out.2.1, Quiet.Bel.cellA hw HE.out.2.2.1, Quiet.Bel.cellA hw HE.out.2.2.2.1, Quiet.Bel.cellA hw HE.out.2.2.2.2⟩) (fun W2 hW2 hcell => ?_)
          repeat (first
            | go_big_quiet_skip
            | (go_big_quiet_want; go_big_quiet_op; go_big_quiet_on)
            | (refine Quiet.val _ _ (by rfl) (by (intro w' hC; obtain ⟨s0, s1, s2, s3, s4, s5⟩ := hcell w' hC; clear s0; go_simp; with_reducible rfl)) (by (simp only [Act.put, List.setIfInBounds_toArray, List.set_cons_zero, List.set_cons_succ]; rfl)) ?_))
          refine Quiet.done ?_
          intro w6 hbel
          have G6 := Aside0.mk (blk_bel (hW2.out ▸ HBK.out) hbel)
          have D6 := Aside0.mk (blk_bel (hW2.out ▸ HDK.out) hbel)
          have B6 := Aside0.mk (Quiet.Bel.out HB.out hW2 hbel)
          have E6 := Aside0.mk (show _ ∧ _ ∧ _ ∧ _ ∧ _ from ⟨Quiet.Bel.cellA hbel (hW2.out ▸ HE.out.1), Quiet.Bel.cellA hbel (hW2.out ▸ HE.out.2.1), Quiet.Bel.cellA hbel (hW2.out ▸ HE.out.2.2.1), Quiet.Bel.cellA hbel (hW2.out ▸ HE.out.2.2.2.1), Quiet.Bel.cellA hbel (hW2.out ▸ HE.out.2.2.2.2)⟩)
          clear hbel hcell hW2 HBK HDK HB HE
          have x0 : w6.cell? ⟨w1.heap.size, 0, none⟩ = some (.bool r1) := blk_cell G6.out 0
          have x1 : w6.cell? ⟨w1.heap.size, 1, none⟩ = some (.int .i64 r2) := blk_cell G6.out 1
          have x2 : w6.cell? ⟨w1.heap.size, 2, none⟩ = some (.int .i64 r3) := blk_cell G6.out 2
          have x3 : w6.cell? ⟨w1.heap.size, 3, none⟩ = some (.bool r4) := blk_cell G6.out 3
          have x4 : w6.cell? ⟨w1.heap.size, 4, none⟩ = some (.int .i64 r5) := blk_cell G6.out 4
          have x5 : w6.cell? ⟨w1.heap.size, 5, none⟩ = some (.int .i64 r6) := blk_cell G6.out 5
          have x6 : w6.cell? ⟨w1.heap.size, 6, none⟩ = some (.bool r7) := blk_cell G6.out 6
          have x7 : w6.cell? ⟨w1.heap.size, 7, none⟩ = some (.bool true) := blk_cell G6.out 7
          have x8 : w6.cell? ⟨w1.heap.size, 8, none⟩ = some (.int .i64 0) := blk_cell G6.out 8
          have x9 : w6.cell? ⟨w1.heap.size, 9, none⟩ = some (.bool false) := blk_cell G6.out 9
          have x10 : w6.cell? ⟨w1.heap.size, 10, none⟩ = some (.bool false) := blk_cell G6.out 10
          have y0 : w6.cell? ⟨w.heap.size, 0, none⟩ = some (.int .i64 d0) := blk_cell D6.out 0
          have y1 : w6.cell? ⟨w.heap.size, 1, none⟩ = some (.int .i64 d1) := blk_cell D6.out 1
          have y2 : w6.cell? ⟨w.heap.size, 2, none⟩ = some (.int .i64 d2) := blk_cell D6.out 2
          obtain ⟨e0, e1, e2, e3, e4⟩ := E6.out
          have nn : ((0 : Int) != 0) = false := rfl
          go_wp2_with fail
          go_roundg k1
          case measure => have := HI.out; omega
          case rel => exact ⟨_, _, _, _, _, _, _, _, 0, _, _, i + 1, (by first | rfl | rw [WN.out]), (by first | rfl | rw [WX.out]), ⟨by have := HI.out; have := HI3.out; omega⟩, G6, D6, B6⟩
        · clear HK
          have nn : ((n + 1 : Int) != n + 1) = false := by simp
          have wn : wrap64 (n + 1) = n + 1 := WN.out
          rcases Bool.eq_false_or_eq_true (bits .and .i64 (wrap64 (ci - co)) 255 != 0) with z1 | z1
          · skip
            go_wp2_with fail
            refine Quiet.start (fun w' => w'.heap[w1.heap.size]? = some (.cells #[.bool r1, .int .i64 r2, .int .i64 r3, .bool r4, .int .i64 r5, .int .i64 r6, .bool r7, .bool false, .int .i64 (n + 1), .bool r10, .bool r11] 31) ∧ w'.cell? (ad.add (i.toNat * 5)) = some (.bool true) ∧ w'.cell? ⟨(ad.add (i.toNat * 5)).block, (ad.add (i.toNat * 5)).off + 1, none⟩ = some (.int .i64 ci) ∧ w'.cell? ⟨(ad.add (i.toNat * 5)).block, (ad.add (i.toNat * 5)).off + 2, none⟩ = some (.int .i64 co) ∧ w'.cell? ⟨(ad.add (i.toNat * 5)).block, (ad.add (i.toNat * 5)).off + 3, none⟩ = some (.int .i64 cc) ∧ w'.cell? ⟨(ad.add (i.toNat * 5)).block, (ad.add (i.toNat * 5)).off + 4, none⟩ = some (.int .i64 cb)) (by kernel_rfl) (by kernel_rfl) (fun w' hw => ⟨blk_bel HBK.out hw, Quiet.Bel.cellA hw HE.out.1, Quiet.Bel.cellA hw HE.out.2.1, Quiet.Bel.cellA hw HE.out.2.2.1, Quiet.Bel.cellA hw HE.out.2.2.2.1, Quiet.Bel.cellA hw HE.out.2.2.2.2⟩) (fun W2 hW2 hcell => ?_)
            repeat (first
              | go_big_quiet_skip
              | (go_big_quiet_want; go_big_quiet_op; go_big_quiet_on)
              | (refine Quiet.val _ _ (by rfl) (by (intro w' hC; obtain ⟨s0, s1, s2, s3, s4, s5⟩ := hcell w' hC; clear s0; go_simp; with_reducible rfl)) (by (simp only [Act.put, List.setIfInBounds_toArray, List.set_cons_zero, List.set_cons_succ]; rfl)) ?_))
            refine Quiet.done ?_
            intro w6 hbel
            have G6 := Aside0.mk (blk_bel (hW2.out ▸ HBK.out) hbel)
            have D6 := Aside0.mk (blk_bel (hW2.out ▸ HDK.out) hbel)
            have B6 := Aside0.mk (Quiet.Bel.out HB.out hW2 hbel)
            have E6 := Aside0.mk (show _ ∧ _ ∧ _ ∧ _ ∧ _ from ⟨Quiet.Bel.cellA hbel (hW2.out ▸ HE.out.1), Quiet.Bel.cellA hbel (hW2.out ▸ HE.out.2.1), Quiet.Bel.cellA hbel (hW2.out ▸ HE.out.2.2.1), Quiet.Bel.cellA hbel (hW2.out ▸ HE.out.2.2.2.1), Quiet.Bel.cellA hbel (hW2.out ▸ HE.out.2.2.2.2)⟩)
            clear hbel hcell hW2 HBK HDK HB HE
            have x0 : w6.cell? ⟨w1.heap.size, 0, none⟩ = some (.bool r1) := blk_cell G6.out 0
            have x1 : w6.cell? ⟨w1.heap.size, 1, none⟩ = some (.int .i64 r2) := blk_cell G6.out 1
            have x2 : w6.cell? ⟨w1.heap.size, 2, none⟩ = some (.int .i64 r3) := blk_cell G6.out 2
            have x3 : w6.cell? ⟨w1.heap.size, 3, none⟩ = some (.bool r4) := blk_cell G6.out 3
            have x4 : w6.cell? ⟨w1.heap.size, 4, none⟩ = some (.int .i64 r5) := blk_cell G6.out 4
            have x5 : w6.cell? ⟨w1.heap.size, 5, none⟩ = some (.int .i64 r6) := blk_cell G6.out 5
            have x6 : w6.cell? ⟨w1.heap.size, 6, none⟩ = some (.bool r7) := blk_cell G6.out 6
            have x7 : w6.cell? ⟨w1.heap.size, 7, none⟩ = some (.bool false) := blk_cell G6.out 7
            have x8 : w6.cell? ⟨w1.heap.size, 8, none⟩ = some (.int .i64 (n + 1)) := blk_cell G6.out 8
            have x9 : w6.cell? ⟨w1.heap.size, 9, none⟩ = some (.bool r10) := blk_cell G6.out 9
            have x10 : w6.cell? ⟨w1.heap.size, 10, none⟩ = some (.bool r11) := blk_cell G6.out 10
            have y0 : w6.cell? ⟨w.heap.size, 0, none⟩ = some (.int .i64 d0) := blk_cell D6.out 0
            have y1 : w6.cell? ⟨w.heap.size, 1, none⟩ = some (.int .i64 d1) := blk_cell D6.out 1
            have y2 : w6.cell? ⟨w.heap.size, 2, none⟩ = some (.int .i64 d2) := blk_cell D6.out 2
            obtain ⟨e0, e1, e2, e3, e4⟩ := E6.out
            by_cases k0 : cc < 0
            · have k0a : decide (cc ≥ 0) = false := decide_eq_false (by omega)
              have k0b : decide (0 ≤ cc) = false := decide_eq_false (by omega)
              clear k0
              go_wp2_with fail
              go_roundg k1
              case measure => have := HI.out; omega
              case rel => exact ⟨_, _, _, _, _, _, _, _, (n + 1), _, _, i + 1, (by first | rfl | rw [WN.out]), (by first | rfl | rw [WX.out]), ⟨by have := HI.out; have := HI3.out; omega⟩, G6, D6, B6⟩
            have k0a : decide (cc ≥ 0) = true := decide_eq_true (by omega)
            have k0b : decide (0 ≤ cc) = true := decide_eq_true (by omega)
            have k0p := eq_true (show 0 ≤ cc by omega)
            by_cases k2 : cc > 2
            · have k2a : decide (cc ≤ 2) = false := decide_eq_false (by omega)
              clear k0 k2
              go_wp2_with fail
              go_roundg k1
              case measure => have := HI.out; omega
              case rel => exact ⟨_, _, _, _, _, _, _, _, (n + 1), _, _, i + 1, (by first | rfl | rw [WN.out]), (by first | rfl | rw [WX.out]), ⟨by have := HI.out; have := HI3.out; omega⟩, G6, D6, B6⟩
            have k2a : decide (cc ≤ 2) = true := decide_eq_true (by omega)
            have k2p := eq_true (show cc < 3 by omega)
            have k2q : decide (cc < 3) = true := decide_eq_true (by omega)
            have hw : w6.cell? ⟨w.heap.size, cc.toNat, none⟩ = some (.int .i64 (wait cc d0 d1 d2)) := by
              rcases (show cc = 0 ∨ cc = 1 ∨ cc = 2 by omega) with rfl | rfl | rfl
              · exact y0
              · exact y1
              · exact y2
            by_cases k4 : n + 1 > wait cc d0 d1 d2
            · have hk : r11 = true := (HFIT.out.2.1 rfl).2 (by omega) (by omega) k4
              subst hk
              have k4a : decide (n + 1 > wait cc d0 d1 d2) = true := decide_eq_true k4
              have k4b : decide (wait cc d0 d1 d2 < n + 1) = true := decide_eq_true k4
              clear k0 k2 k4 y0 y1 y2
              go_wp2_with fail
              go_roundg k1
              case measure => have := HI.out; omega
              case rel => exact ⟨_, _, _, _, _, _, _, _, (n + 1), _, _, i + 1, (by first | rfl | rw [WN.out]), (by first | rfl | rw [WX.out]), ⟨by have := HI.out; have := HI3.out; omega⟩, G6, D6, B6⟩
            · have k4a : decide (n + 1 > wait cc d0 d1 d2) = false := decide_eq_false k4
              have k4b : decide (wait cc d0 d1 d2 < n + 1) = false := decide_eq_false k4
              clear k0 k2 k4 y0 y1 y2
              go_wp2_with fail
              go_roundg k1
              case measure => have := HI.out; omega
              case rel => exact ⟨_, _, _, _, _, _, _, _, (n + 1), _, _, i + 1, (by first | rfl | rw [WN.out]), (by first | rfl | rw [WX.out]), ⟨by have := HI.out; have := HI3.out; omega⟩, G6, D6, B6⟩
          · rcases Bool.eq_false_or_eq_true (bits .and .i64 cb 3 != 0) with z2 | z2
            · skip
              go_wp2_with fail
              refine Quiet.start (fun w' => w'.heap[w1.heap.size]? = some (.cells #[.bool r1, .int .i64 r2, .int .i64 r3, .bool r4, .int .i64 r5, .int .i64 r6, .bool r7, .bool false, .int .i64 (n + 1), .bool r10, .bool r11] 31) ∧ w'.cell? (ad.add (i.toNat * 5)) = some (.bool true) ∧ w'.cell? ⟨(ad.add (i.toNat * 5)).block, (ad.add (i.toNat * 5)).off + 1, none⟩ = some (.int .i64 ci) ∧ w'.cell? ⟨(ad.add (i.toNat * 5)).block, (ad.add (i.toNat * 5)).off + 2, none⟩ = some (.int .i64 co) ∧ w'.cell? ⟨(ad.add (i.toNat * 5)).block, (ad.add (i.toNat * 5)).off + 3, none⟩ = some (.int .i64 cc) ∧ w'.cell? ⟨(ad.add (i.toNat * 5)).block, (ad.add (i.toNat * 5)).off + 4, none⟩ = some (.int .i64 cb)) (by kernel_rfl) (by kernel_rfl) (fun w' hw => ⟨blk_bel HBK.out hw, Quiet.Bel.cellA hw HE.out.1, Quiet.Bel.cellA hw HE.out.2.1, Quiet.Bel.cellA hw HE.out.2.2.1, Quiet.Bel.cellA hw HE.out.2.2.2.1, Quiet.Bel.cellA hw HE.out.2.2.2.2⟩) (fun W2 hW2 hcell => ?_)
              repeat (first
                | go_big_quiet_skip
                | (go_big_quiet_want; go_big_quiet_op; go_big_quiet_on)
                | (refine Quiet.val _ _ (by rfl) (by (intro w' hC; obtain ⟨s0, s1, s2, s3, s4, s5⟩ := hcell w' hC; clear s0; go_simp; with_reducible rfl)) (by (simp only [Act.put, List.setIfInBounds_toArray, List.set_cons_zero, List.set_cons_succ]; rfl)) ?_))
              refine Quiet.done ?_
              intro w6 hbel
              have G6 := Aside0.mk (blk_bel (hW2.out ▸ HBK.out) hbel)
              have D6 := Aside0.mk (blk_bel (hW2.out ▸ HDK.out) hbel)
              have B6 := Aside0.mk (Quiet.Bel.out HB.out hW2 hbel)
              have E6 := Aside0.mk (show _ ∧ _ ∧ _ ∧ _ ∧ _ from ⟨Quiet.Bel.cellA hbel (hW2.out ▸ HE.out.1), Quiet.Bel.cellA hbel (hW2.out ▸ HE.out.2.1), Quiet.Bel.cellA hbel (hW2.out ▸ HE.out.2.2.1), Quiet.Bel.cellA hbel (hW2.out ▸ HE.out.2.2.2.1), Quiet.Bel.cellA hbel (hW2.out ▸ HE.out.2.2.2.2)⟩)
              clear hbel hcell hW2 HBK HDK HB HE
              have x0 : w6.cell? ⟨w1.heap.size, 0, none⟩ = some (.bool r1) := blk_cell G6.out 0
              have x1 : w6.cell? ⟨w1.heap.size, 1, none⟩ = some (.int .i64 r2) := blk_cell G6.out 1
              have x2 : w6.cell? ⟨w1.heap.size, 2, none⟩ = some (.int .i64 r3) := blk_cell G6.out 2
              have x3 : w6.cell? ⟨w1.heap.size, 3, none⟩ = some (.bool r4) := blk_cell G6.out 3
              have x4 : w6.cell? ⟨w1.heap.size, 4, none⟩ = some (.int .i64 r5) := blk_cell G6.out 4
              have x5 : w6.cell? ⟨w1.heap.size, 5, none⟩ = some (.int .i64 r6) := blk_cell G6.out 5
              have x6 : w6.cell? ⟨w1.heap.size, 6, none⟩ = some (.bool r7) := blk_cell G6.out 6
              have x7 : w6.cell? ⟨w1.heap.size, 7, none⟩ = some (.bool false) := blk_cell G6.out 7
              have x8 : w6.cell? ⟨w1.heap.size, 8, none⟩ = some (.int .i64 (n + 1)) := blk_cell G6.out 8
              have x9 : w6.cell? ⟨w1.heap.size, 9, none⟩ = some (.bool r10) := blk_cell G6.out 9
              have x10 : w6.cell? ⟨w1.heap.size, 10, none⟩ = some (.bool r11) := blk_cell G6.out 10
              have y0 : w6.cell? ⟨w.heap.size, 0, none⟩ = some (.int .i64 d0) := blk_cell D6.out 0
              have y1 : w6.cell? ⟨w.heap.size, 1, none⟩ = some (.int .i64 d1) := blk_cell D6.out 1
              have y2 : w6.cell? ⟨w.heap.size, 2, none⟩ = some (.int .i64 d2) := blk_cell D6.out 2
              obtain ⟨e0, e1, e2, e3, e4⟩ := E6.out
              by_cases k0 : cc < 0
              · have k0a : decide (cc ≥ 0) = false := decide_eq_false (by omega)
                have k0b : decide (0 ≤ cc) = false := decide_eq_false (by omega)
                clear k0
                go_wp2_with fail
                go_roundg k1
                case measure => have := HI.out; omega
                case rel => exact ⟨_, _, _, _, _, _, _, _, (n + 1), _, _, i + 1, (by first | rfl | rw [WN.out]), (by first | rfl | rw [WX.out]), ⟨by have := HI.out; have := HI3.out; omega⟩, G6, D6, B6⟩
              have k0a : decide (cc ≥ 0) = true := decide_eq_true (by omega)
              have k0b : decide (0 ≤ cc) = true := decide_eq_true (by omega)
              have k0p := eq_true (show 0 ≤ cc by omega)
              by_cases k2 : cc > 2
              · have k2a : decide (cc ≤ 2) = false := decide_eq_false (by omega)
                clear k0 k2
                go_wp2_with fail
                go_roundg k1
                case measure => have := HI.out; omega
                case rel => exact ⟨_, _, _, _, _, _, _, _, (n + 1), _, _, i + 1, (by first | rfl | rw [WN.out]), (by first | rfl | rw [WX.out]), ⟨by have := HI.out; have := HI3.out; omega⟩, G6, D6, B6⟩
              have k2a : decide (cc ≤ 2) = true := decide_eq_true (by omega)
              have k2p := eq_true (show cc < 3 by omega)
              have k2q : decide (cc < 3) = true := decide_eq_true (by omega)
              have hw : w6.cell? ⟨w.heap.size, cc.toNat, none⟩ = some (.int .i64 (wait cc d0 d1 d2)) := by
                rcases (show cc = 0 ∨ cc = 1 ∨ cc = 2 by omega) with rfl | rfl | rfl
                · exact y0
                · exact y1
                · exact y2
              by_cases k4 : n + 1 > wait cc d0 d1 d2
              · have hk : r11 = true := (HFIT.out.2.1 rfl).2 (by omega) (by omega) k4
                subst hk
                have k4a : decide (n + 1 > wait cc d0 d1 d2) = true := decide_eq_true k4
                have k4b : decide (wait cc d0 d1 d2 < n + 1) = true := decide_eq_true k4
                clear k0 k2 k4 y0 y1 y2
                go_wp2_with fail
                go_roundg k1
                case measure => have := HI.out; omega
                case rel => exact ⟨_, _, _, _, _, _, _, _, (n + 1), _, _, i + 1, (by first | rfl | rw [WN.out]), (by first | rfl | rw [WX.out]), ⟨by have := HI.out; have := HI3.out; omega⟩, G6, D6, B6⟩
              · have k4a : decide (n + 1 > wait cc d0 d1 d2) = false := decide_eq_false k4
                have k4b : decide (wait cc d0 d1 d2 < n + 1) = false := decide_eq_false k4
                clear k0 k2 k4 y0 y1 y2
                go_wp2_with fail
                go_roundg k1
                case measure => have := HI.out; omega
                case rel => exact ⟨_, _, _, _, _, _, _, _, (n + 1), _, _, i + 1, (by first | rfl | rw [WN.out]), (by first | rfl | rw [WX.out]), ⟨by have := HI.out; have := HI3.out; omega⟩, G6, D6, B6⟩
            · skip
              go_wp2_with fail
              refine Quiet.start (fun w' => w'.heap[w1.heap.size]? = some (.cells #[.bool r1, .int .i64 r2, .int .i64 r3, .bool r4, .int .i64 r5, .int .i64 r6, .bool r7, .bool false, .int .i64 (n + 1), .bool r10, .bool r11] 31) ∧ w'.cell? (ad.add (i.toNat * 5)) = some (.bool true) ∧ w'.cell? ⟨(ad.add (i.toNat * 5)).block, (ad.add (i.toNat * 5)).off + 1, none⟩ = some (.int .i64 ci) ∧ w'.cell? ⟨(ad.add (i.toNat * 5)).block, (ad.add (i.toNat * 5)).off + 2, none⟩ = some (.int .i64 co) ∧ w'.cell? ⟨(ad.add (i.toNat * 5)).block, (ad.add (i.toNat * 5)).off + 3, none⟩ = some (.int .i64 cc) ∧ w'.cell? ⟨(ad.add (i.toNat * 5)).block, (ad.add (i.toNat * 5)).off + 4, none⟩ = some (.int .i64 cb)) (by kernel_rfl) (by kernel_rfl) (fun w' hw => ⟨blk_bel HBK.out hw, Quiet.Bel.cellA hw HE.out.1, Quiet.Bel.cellA hw HE.out.2.1, Quiet.Bel.cellA hw HE.out.2.2.1, Quiet.Bel.cellA hw HE.out.2.2.2.1, Quiet.Bel.cellA hw HE.out.2.2.2.2⟩) (fun W2 hW2 hcell => ?_)
              repeat (first
                | go_big_quiet_skip
                | (go_big_quiet_want; go_big_quiet_op; go_big_quiet_on)
                | (refine Quiet.val _ _ (by rfl) (by (intro w' hC; obtain ⟨s0, s1, s2, s3, s4, s5⟩ := hcell w' hC; clear s0; go_simp; with_reducible rfl)) (by (simp only [Act.put, List.setIfInBounds_toArray, List.set_cons_zero, List.set_cons_succ]; rfl)) ?_))
              refine Quiet.done ?_
              intro w6 hbel
              have G6 := Aside0.mk (blk_bel (hW2.out ▸ HBK.out) hbel)
              have D6 := Aside0.mk (blk_bel (hW2.out ▸ HDK.out) hbel)
              have B6 := Aside0.mk (Quiet.Bel.out HB.out hW2 hbel)
              have E6 := Aside0.mk (show _ ∧ _ ∧ _ ∧ _ ∧ _ from ⟨Quiet.Bel.cellA hbel (hW2.out ▸ HE.out.1), Quiet.Bel.cellA hbel (hW2.out ▸ HE.out.2.1), Quiet.Bel.cellA hbel (hW2.out ▸ HE.out.2.2.1), Quiet.Bel.cellA hbel (hW2.out ▸ HE.out.2.2.2.1), Quiet.Bel.cellA hbel (hW2.out ▸ HE.out.2.2.2.2)⟩)
              clear hbel hcell hW2 HBK HDK HB HE
              have x0 : w6.cell? ⟨w1.heap.size, 0, none⟩ = some (.bool r1) := blk_cell G6.out 0
              have x1 : w6.cell? ⟨w1.heap.size, 1, none⟩ = some (.int .i64 r2) := blk_cell G6.out 1
              have x2 : w6.cell? ⟨w1.heap.size, 2, none⟩ = some (.int .i64 r3) := blk_cell G6.out 2
              have x3 : w6.cell? ⟨w1.heap.size, 3, none⟩ = some (.bool r4) := blk_cell G6.out 3
              have x4 : w6.cell? ⟨w1.heap.size, 4, none⟩ = some (.int .i64 r5) := blk_cell G6.out 4
              have x5 : w6.cell? ⟨w1.heap.size, 5, none⟩ = some (.int .i64 r6) := blk_cell G6.out 5
              have x6 : w6.cell? ⟨w1.heap.size, 6, none⟩ = some (.bool r7) := blk_cell G6.out 6
              have x7 : w6.cell? ⟨w1.heap.size, 7, none⟩ = some (.bool false) := blk_cell G6.out 7
              have x8 : w6.cell? ⟨w1.heap.size, 8, none⟩ = some (.int .i64 (n + 1)) := blk_cell G6.out 8
              have x9 : w6.cell? ⟨w1.heap.size, 9, none⟩ = some (.bool r10) := blk_cell G6.out 9
              have x10 : w6.cell? ⟨w1.heap.size, 10, none⟩ = some (.bool r11) := blk_cell G6.out 10
              have y0 : w6.cell? ⟨w.heap.size, 0, none⟩ = some (.int .i64 d0) := blk_cell D6.out 0
              have y1 : w6.cell? ⟨w.heap.size, 1, none⟩ = some (.int .i64 d1) := blk_cell D6.out 1
              have y2 : w6.cell? ⟨w.heap.size, 2, none⟩ = some (.int .i64 d2) := blk_cell D6.out 2
              obtain ⟨e0, e1, e2, e3, e4⟩ := E6.out
              by_cases k0 : cc < 0
              · have k0a : decide (cc ≥ 0) = false := decide_eq_false (by omega)
                have k0b : decide (0 ≤ cc) = false := decide_eq_false (by omega)
                clear k0
                go_wp2_with fail
                go_roundg k1
                case measure => have := HI.out; omega
                case rel => exact ⟨_, _, _, _, _, _, _, _, (n + 1), _, _, i + 1, (by first | rfl | rw [WN.out]), (by first | rfl | rw [WX.out]), ⟨by have := HI.out; have := HI3.out; omega⟩, G6, D6, B6⟩
              have k0a : decide (cc ≥ 0) = true := decide_eq_true (by omega)
              have k0b : decide (0 ≤ cc) = true := decide_eq_true (by omega)
              have k0p := eq_true (show 0 ≤ cc by omega)
              by_cases k2 : cc > 2
              · have k2a : decide (cc ≤ 2) = false := decide_eq_false (by omega)
                clear k0 k2
                go_wp2_with fail
                go_roundg k1
                case measure => have := HI.out; omega
                case rel => exact ⟨_, _, _, _, _, _, _, _, (n + 1), _, _, i + 1, (by first | rfl | rw [WN.out]), (by first | rfl | rw [WX.out]), ⟨by have := HI.out; have := HI3.out; omega⟩, G6, D6, B6⟩
              have k2a : decide (cc ≤ 2) = true := decide_eq_true (by omega)
              have k2p := eq_true (show cc < 3 by omega)
              have k2q : decide (cc < 3) = true := decide_eq_true (by omega)
              have hw : w6.cell? ⟨w.heap.size, cc.toNat, none⟩ = some (.int .i64 (wait cc d0 d1 d2)) := by
                rcases (show cc = 0 ∨ cc = 1 ∨ cc = 2 by omega) with rfl | rfl | rfl
                · exact y0
                · exact y1
                · exact y2
              by_cases k4 : n + 1 > wait cc d0 d1 d2
              · have hk : r11 = true := (HFIT.out.2.1 rfl).2 (by omega) (by omega) k4
                subst hk
                have k4a : decide (n + 1 > wait cc d0 d1 d2) = true := decide_eq_true k4
                have k4b : decide (wait cc d0 d1 d2 < n + 1) = true := decide_eq_true k4
                clear k0 k2 k4 y0 y1 y2
                go_wp2_with fail
                go_roundg k1
                case measure => have := HI.out; omega
                case rel => exact ⟨_, _, _, _, _, _, _, _, (n + 1), _, _, i + 1, (by first | rfl | rw [WN.out]), (by first | rfl | rw [WX.out]), ⟨by have := HI.out; have := HI3.out; omega⟩, G6, D6, B6⟩
              · have k4a : decide (n + 1 > wait cc d0 d1 d2) = false := decide_eq_false k4
                have k4b : decide (wait cc d0 d1 d2 < n + 1) = false := decide_eq_false k4
                clear k0 k2 k4 y0 y1 y2
                go_wp2_with fail
                go_roundg k1
                case measure => have := HI.out; omega
                case rel => exact ⟨_, _, _, _, _, _, _, _, (n + 1), _, _, i + 1, (by first | rfl | rw [WN.out]), (by first | rfl | rw [WX.out]), ⟨by have := HI.out; have := HI3.out; omega⟩, G6, D6, B6⟩
        · clear HK
          have nn : ((n + 1 : Int) != n + 1) = false := by simp
          have wn : wrap64 (n + 1) = n + 1 := WN.out
          go_wp2_with fail
          refine Quiet.start (fun w' => w'.heap[w1.heap.size]? = some (.cells #[.bool r1, .int .i64 r2, .int .i64 r3, .bool r4, .int .i64 r5, .int .i64 r6, .bool r7, .bool false, .int .i64 (n + 1), .bool true, .bool true] 31) ∧ w'.cell? (ad.add (i.toNat * 5)) = some (.bool false) ∧ w'.cell? ⟨(ad.add (i.toNat * 5)).block, (ad.add (i.toNat * 5)).off + 1, none⟩ = some (.int .i64 ci) ∧ w'.cell? ⟨(ad.add (i.toNat * 5)).block, (ad.add (i.toNat * 5)).off + 2, none⟩ = some (.int .i64 co) ∧ w'.cell? ⟨(ad.add (i.toNat * 5)).block, (ad.add (i.toNat * 5)).off + 3, none⟩ = some (.int .i64 cc) ∧ w'.cell? ⟨(ad.add (i.toNat * 5)).block, (ad.add (i.toNat * 5)).off + 4, none⟩ = some (.int .i64 cb)) (by kernel_rfl) (by kernel_rfl) (fun w' hw => ⟨blk_bel HBK.out hw, Quiet.Bel.cellA hw HE.out.1, Quiet.Bel.cellA hw HE.out.2.1, Quiet.Bel.cellA hw HE.out.2.2.1, Quiet.Bel.cellA hw HE.out.2.2.2.1, Quiet.Bel.cellA hw HE.out.2.2.2.2⟩) (fun W2 hW2 hcell => ?_)
          repeat (first
            | go_big_quiet_skip
            | (go_big_quiet_want; go_big_quiet_op; go_big_quiet_on)
            | (refine Quiet.val _ _ (by rfl) (by (intro w' hC; obtain ⟨s0, s1, s2, s3, s4, s5⟩ := hcell w' hC; clear s0; go_simp; with_reducible rfl)) (by (simp only [Act.put, List.setIfInBounds_toArray, List.set_cons_zero, List.set_cons_succ]; rfl)) ?_))
          refine Quiet.done ?_
          intro w6 hbel
          have G6 := Aside0.mk (blk_bel (hW2.out ▸ HBK.out) hbel)
          have D6 := Aside0.mk (blk_bel (hW2.out ▸ HDK.out) hbel)
          have B6 := Aside0.mk (Quiet.Bel.out HB.out hW2 hbel)
          have E6 := Aside0.mk (show _ ∧ _ ∧ _ ∧ _ ∧ _ from ⟨Quiet.Bel.cellA hbel (hW2.out ▸ HE.out.1), Quiet.Bel.cellA hbel (hW2.out ▸ HE.out.2.1), Quiet.Bel.cellA hbel (hW2.out ▸ HE.out.2.2.1), Quiet.Bel.cellA hbel (hW2.out ▸ HE.out.2.2.2.1), Quiet.Bel.cellA hbel (hW2.out ▸ HE.out.2.2.2.2)⟩)
          clear hbel hcell hW2 HBK HDK HB HE
          have x0 : w6.cell? ⟨w1.heap.size, 0, none⟩ = some (.bool r1) := blk_cell G6.out 0
          have x1 : w6.cell? ⟨w1.heap.size, 1, none⟩ = some (.int .i64 r2) := blk_cell G6.out 1
          have x2 : w6.cell? ⟨w1.heap.size, 2, none⟩ = some (.int .i64 r3) := blk_cell G6.out 2
          have x3 : w6.cell? ⟨w1.heap.size, 3, none⟩ = some (.bool r4) := blk_cell G6.out 3
          have x4 : w6.cell? ⟨w1.heap.size, 4, none⟩ = some (.int .i64 r5) := blk_cell G6.out 4
          have x5 : w6.cell? ⟨w1.heap.size, 5, none⟩ = some (.int .i64 r6) := blk_cell G6.out 5
          have x6 : w6.cell? ⟨w1.heap.size, 6, none⟩ = some (.bool r7) := blk_cell G6.out 6
          have x7 : w6.cell? ⟨w1.heap.size, 7, none⟩ = some (.bool false) := blk_cell G6.out 7
          have x8 : w6.cell? ⟨w1.heap.size, 8, none⟩ = some (.int .i64 (n + 1)) := blk_cell G6.out 8
          have x9 : w6.cell? ⟨w1.heap.size, 9, none⟩ = some (.bool true) := blk_cell G6.out 9
          have x10 : w6.cell? ⟨w1.heap.size, 10, none⟩ = some (.bool true) := blk_cell G6.out 10
          have y0 : w6.cell? ⟨w.heap.size, 0, none⟩ = some (.int .i64 d0) := blk_cell D6.out 0
          have y1 : w6.cell? ⟨w.heap.size, 1, none⟩ = some (.int .i64 d1) := blk_cell D6.out 1
          have y2 : w6.cell? ⟨w.heap.size, 2, none⟩ = some (.int .i64 d2) := blk_cell D6.out 2
          obtain ⟨e0, e1, e2, e3, e4⟩ := E6.out
          by_cases k0 : cc < 0
          · have k0a : decide (cc ≥ 0) = false := decide_eq_false (by omega)
            have k0b : decide (0 ≤ cc) = false := decide_eq_false (by omega)
            clear k0
            go_wp2_with fail
            go_roundg k1
            case measure => have := HI.out; omega
            case rel => exact ⟨_, _, _, _, _, _, _, _, (n + 1), _, _, i + 1, (by first | rfl | rw [WN.out]), (by first | rfl | rw [WX.out]), ⟨by have := HI.out; have := HI3.out; omega⟩, G6, D6, B6⟩
          have k0a : decide (cc ≥ 0) = true := decide_eq_true (by omega)
          have k0b : decide (0 ≤ cc) = true := decide_eq_true (by omega)
          have k0p := eq_true (show 0 ≤ cc by omega)
          by_cases k2 : cc > 2
          · have k2a : decide (cc ≤ 2) = false := decide_eq_false (by omega)
            clear k0 k2
            go_wp2_with fail
            go_roundg k1
            case measure => have := HI.out; omega
            case rel => exact ⟨_, _, _, _, _, _, _, _, (n + 1), _, _, i + 1, (by first | rfl | rw [WN.out]), (by first | rfl | rw [WX.out]), ⟨by have := HI.out; have := HI3.out; omega⟩, G6, D6, B6⟩
          have k2a : decide (cc ≤ 2) = true := decide_eq_true (by omega)
          have k2p := eq_true (show cc < 3 by omega)
          have k2q : decide (cc < 3) = true := decide_eq_true (by omega)
          have hw : w6.cell? ⟨w.heap.size, cc.toNat, none⟩ = some (.int .i64 (wait cc d0 d1 d2)) := by
            rcases (show cc = 0 ∨ cc = 1 ∨ cc = 2 by omega) with rfl | rfl | rfl
            · exact y0
            · exact y1
            · exact y2
          by_cases k4 : n + 1 > wait cc d0 d1 d2
          · have k4a : decide (n + 1 > wait cc d0 d1 d2) = true := decide_eq_true k4
            have k4b : decide (wait cc d0 d1 d2 < n + 1) = true := decide_eq_true k4
            clear k0 k2 k4 y0 y1 y2
            go_wp2_with fail
            go_roundg k1
            case measure => have := HI.out; omega
            case rel => exact ⟨_, _, _, _, _, _, _, _, (n + 1), _, _, i + 1, (by first | rfl | rw [WN.out]), (by first | rfl | rw [WX.out]), ⟨by have := HI.out; have := HI3.out; omega⟩, G6, D6, B6⟩
          · have k4a : decide (n + 1 > wait cc d0 d1 d2) = false := decide_eq_false k4
            have k4b : decide (wait cc d0 d1 d2 < n + 1) = false := decide_eq_false k4
            clear k0 k2 k4 y0 y1 y2
            go_wp2_with fail
            go_roundg k1
            case measure => have := HI.out; omega
            case rel => exact ⟨_, _, _, _, _, _, _, _, (n + 1), _, _, i + 1, (by first | rfl | rw [WN.out]), (by first | rfl | rw [WX.out]), ⟨by have := HI.out; have := HI3.out; omega⟩, G6, D6, B6⟩
set_option maxHeartbeats 40000000 in
set_option maxRecDepth 100000 in
theorem walk {P0 P1 P2 P3 : Prop} (w : World) (A0 : Option Addr) (c0 : Nat) (l0 : List S34) (d0 d1 d2 : Int) (A2 : Option Addr) (c2 : Nat) (l2 : List Bool) (_ : P0) (_ : P1) (_ : P2) (_ : P3) (hc0 : l0.length ≤ c0) (hr0 : Kd.C k34 w A0 l0.length l0) (hc2 : l2.length ≤ c2) (hr2 : Kd.C Kd.bool w A2 l2.length l2) :
    Calls Try.prog 3 #[.slice A0 l0.length c0, .agg #[.int .i64 d0, .int .i64 d1, .int .i64 d2], .slice A2 l2.length c2] w fun e w' => e = .returned (.bool true) ∧ Below w.heap.size w w' := by
  by_cases hl : (l0.length : Int) ≤ 200
  · exact walk0 w A0 c0 l0 d0 d1 d2 A2 c2 l2 hc0 hr0 hc2 hr2 hl
  · have g1 : decide ((l0.length : Int) > 200) = true := decide_eq_true (by omega)
    have g1' : decide ((200 : Int) < (l0.length : Int)) = true := decide_eq_true (by omega)
    have g1n : decide (200 < l0.length) = true := decide_eq_true (by omega)
    clear hl hr0 hc0 hr2 hc2
    go_enter Try.func3, Try.ntmps3
    go_wp2_with fail
    refine (crossbucklaw12_small.calls true _ rfl).mono ?_
    rintro e w1 ⟨rfl, hb1⟩
    have H1 : Aside0 (Below w.heap.size w w1) := ⟨below_step (below_alloc (Below.refl _ _) _) hb1⟩
    clear hb1
    go_wp2_with fail
    go_ret
    exact ⟨rfl, H1.out⟩
end Safe
end Go.Proofs.Ytnmcnailgdcmoaa.B
