/- What a track is a tick later, in plain words: what the printed track.Step comes to. -/
import Derived.Test.YtnmcnailgdcmoaaBx4
import Derived.Test.YtnmcnailgdcmoaaArith
namespace Go.Proofs.Ytnmcnailgdcmoaa.Track
open Go.RowKit Go.Proofs.Ytnmcnailgdcmoaa.B Go.Proofs.YtnmcnailgdcmoaaW.PrintWords Go.Proofs.YtnmcnailgdcmoaaW.PrintLast Go.Proofs.YtnmcnailgdcmoaaW.PrintMore
set_option linter.unusedVariables false
set_option linter.unusedSimpArgs false

def hN (fr h : Bool) : Bool := fr || h
def iN (fr : Bool) (a c : Int) : Int := if fr = true then c % 256 else a
def lN (fr : Bool) (lie cb : Int) : Int := if fr = true then cb % 4 else lie
def pN (fr : Bool) (lie pos cb : Int) : Int := if fr = true then posN ((gray4 cb - gray4 lie) % 4) pos else pos
def w0 (fr h : Bool) (ai ao : Int) (wr : Bool) (ci co : Int) : Bool := if fr = true then wr || (h && (decide (64 < B.ahead ci ai) || decide (64 < B.ahead co ao))) || decide (128 ≤ B.ahead ci co) else wr
def wN (fr rs h : Bool) (ai ao : Int) (wr : Bool) (ci co : Int) : Bool := if rs = true then w0 fr h ai ao wr ci co && (B.ahead (iN fr ai ci) (iN fr ao co) != 0) else w0 fr h ai ao wr ci co
def j0 (fr : Bool) (lie : Int) (jm : Bool) (cb : Int) : Bool := if fr = true then jm || decide ((gray4 cb - gray4 lie) % 4 = 2) else jm
def jN (fr rs : Bool) (lie : Int) (jm : Bool) (cb : Int) : Bool := if rs = true then j0 fr lie jm cb && (lN fr lie cb % 4 != 0) else j0 fr lie jm cb
def fN (fr w j : Bool) : Bool := !fr || w || j
def cN (fa h w : Bool) (i o lie : Int) (j : Bool) : Bool := !fa && (h && !w && (B.ahead i o == 0)) && ((lie % 4 == 0) && !j)
def sN (cl : Bool) (si : Int) : Int := if cl = true then 0 else mn (mx si 0) 1073741823 + 1
def wait (cc d0 d1 d2 : Int) : Int := if cc = 0 then d0 else if cc = 1 then d1 else if cc = 2 then d2 else 0
def kN (cl fa : Bool) (s t : Int) : Bool := !cl && (fa || decide (s > t))

theorem ahead_eq (a b : Int) : axle_ahead.f a b = some (B.ahead a b) := by
  unfold axle_ahead.f B.ahead
  congr 1
  omega
theorem on_eq (h : Bool) (i o : Int) (x : Bool) : axle_On.f h i o x = some (B.ahead i o) := by
  unfold axle_On.f
  rw [ahead_eq]
  rfl
theorem clear_eq (h : Bool) (i o : Int) (x : Bool) : axle_Clear.f h i o x = some (h && !x && (B.ahead i o == 0)) := by
  unfold axle_Clear.f
  rw [on_eq]
  cases h <;> cases x <;> simp
theorem rest_eq (l p : Int) (j : Bool) : pair_Rest.f l p j = some ((l % 4 == 0) && !j) := by
  unfold pair_Rest.f
  rw [Arith.and3]
  by_cases g : l % 4 = 0
  · rw [if_pos g]; simp [g]
  · rw [if_neg g]; simp [g]
theorem j3_eq (k : Nat) (h : Bool) (ai ao : Int) (wr : Bool) (lie pos : Int) (jm cl : Bool) (si : Int) (fa ca fr : Bool) (ci co cc cb d0 d1 d2 : Int) :
    track_Step.j3 (k + 1) h ai ao wr lie pos jm cl si fa ca fr ci co cc cb d0 d1 d2 = some (h, ai, ao, wr, lie, pos, jm, cl, sN cl si, fa, kN cl fa (sN cl si) (wait cc d0 d1 d2)) := by
  simp only [track_Step.j3]
  cases cl
  · rw [if_neg (by decide)]
    have e : ∀ t : Int, (if fa = true then some (h, ai, ao, wr, lie, pos, jm, false, mn (mx si 0) 1073741823 + 1, fa, true) else some (h, ai, ao, wr, lie, pos, jm, false, mn (mx si 0) 1073741823 + 1, fa, decide (mn (mx si 0) 1073741823 + 1 > t))) = some (h, ai, ao, wr, lie, pos, jm, false, sN false si, fa, kN false fa (sN false si) t) := by
      intro t
      cases fa <;> simp [sN, kN]
    by_cases g0 : cc ≥ 0
    · rw [if_pos g0]
      by_cases g3 : cc < 3
      · rw [if_pos g3]
        by_cases e0 : cc = 0
        · rw [if_pos e0, e, wait, if_pos e0]
        · rw [if_neg e0]
          by_cases e1 : cc = 1
          · rw [if_pos e1, e, wait, if_neg e0, if_pos e1]
          · rw [if_neg e1]
            have e2 : cc = 2 := by omega
            rw [if_pos e2, e, wait, if_neg e0, if_neg e1, if_pos e2]
      · rw [if_neg g3, e, wait, if_neg (by omega), if_neg (by omega), if_neg (by omega)]
    · rw [if_neg g0, e, wait, if_neg (by omega), if_neg (by omega), if_neg (by omega)]
  · rw [if_pos rfl]; simp [sN, kN]
theorem j2_eq (k : Nat) (h : Bool) (ai ao : Int) (wr : Bool) (lie pos : Int) (jm cl : Bool) (si : Int) (fa ca fr : Bool) (ci co cc cb d0 d1 d2 : Int) :
    track_Step.j2 (k + 2) h ai ao wr lie pos jm cl si fa ca fr ci co cc cb d0 d1 d2 = track_Step.j3 (k + 1) h ai ao wr lie pos jm (cN fa h wr ai ao lie jm) si fa ca fr ci co cc cb d0 d1 d2 := by
  simp only [track_Step.j2]
  cases fa
  · rw [if_neg (by decide), clear_eq, Option.bind_some, rest_eq]
    by_cases g : (h && !wr && (B.ahead ai ao == 0)) = true
    · rw [if_pos g, Option.bind_some]
      have e : cN false h wr ai ao lie jm = (lie % 4 == 0 && !jm) := by unfold cN; rw [g]; rfl
      rw [e]
    · rw [if_neg g]
      have e : cN false h wr ai ao lie jm = false := by unfold cN; rw [Bool.eq_false_iff.2 g]; rfl
      rw [e]
  · rw [if_pos rfl]; rfl
theorem j1_eq (k : Nat) (h : Bool) (ai ao : Int) (wr : Bool) (lie pos : Int) (jm cl : Bool) (si : Int) (fa ca fr : Bool) (ci co cc cb d0 d1 d2 : Int) :
    track_Step.j1 (k + 3) h ai ao wr lie pos jm cl si fa ca fr ci co cc cb d0 d1 d2 = track_Step.j2 (k + 2) h ai ao wr lie pos jm cl si (fN fr wr jm) ca fr ci co cc cb d0 d1 d2 := by
  simp only [track_Step.j1]
  cases fr <;> cases wr <;> simp [fN]
/-- A track a tick later. -/
theorem step_eq (k : Nat) (h : Bool) (ai ao : Int) (wr : Bool) (lie pos : Int) (jm cl : Bool) (si : Int) (fa ca fr : Bool) (ci co cc cb d0 d1 d2 : Int) (rs : Bool)
    (w j f c : Bool) (s : Int) (hw : wN fr rs h ai ao wr ci co = w) (hj : jN fr rs lie jm cb = j) (hf : fN fr w j = f) (hc : cN f (hN fr h) w (iN fr ai ci) (iN fr ao co) (lN fr lie cb) j = c) (hs : sN c si = s) :
    track_Step.f (k + 4) h ai ao wr lie pos jm cl si fa ca fr ci co cc cb d0 d1 d2 rs = some (hN fr h, iN fr ai ci, iN fr ao co, w, lN fr lie cb, pN fr lie pos cb, j, c, s, f, kN c f s (wait cc d0 d1 d2)) := by
  subst hs hc hf hw hj
  have fin : ∀ (h : Bool) (ai ao : Int) (wr : Bool) (lie pos : Int) (jm : Bool), track_Step.j1 (k + 3) h ai ao wr lie pos jm cl si fa ca fr ci co cc cb d0 d1 d2 =
      some (h, ai, ao, wr, lie, pos, jm, cN (fN fr wr jm) h wr ai ao lie jm, sN (cN (fN fr wr jm) h wr ai ao lie jm) si, fN fr wr jm, kN (cN (fN fr wr jm) h wr ai ao lie jm) (fN fr wr jm) (sN (cN (fN fr wr jm) h wr ai ao lie jm) si) (wait cc d0 d1 d2)) := by
    intro h ai ao wr lie pos jm
    rw [j1_eq, j2_eq, j3_eq]
  have mid : ∀ (h : Bool) (ai ao : Int) (wr : Bool) (lie pos : Int) (jm : Bool), track_Step.j0 (k + 4) rs h ai ao wr lie pos jm cl si fa ca fr ci co cc cb d0 d1 d2 =
      track_Step.j1 (k + 3) h ai ao (if rs = true then wr && (B.ahead ai ao != 0) else wr) lie pos (if rs = true then jm && (lie % 4 != 0) else jm) cl si fa ca fr ci co cc cb d0 d1 d2 := by
    intro h ai ao wr lie pos jm
    simp only [track_Step.j0]
    cases rs
    · rw [if_neg (by decide)]; rfl
    · rw [if_pos rfl]
      unfold track_forgot.f axle_Reset.f
      rw [on_eq, Arith.and3]
      cases wr <;> cases jm <;> simp
  cases fr
  · have e : track_Step.f (k + 4) h ai ao wr lie pos jm cl si fa ca false ci co cc cb d0 d1 d2 rs = track_Step.j0 (k + 4) rs h ai ao wr lie pos jm cl si fa ca false ci co cc cb d0 d1 d2 := by
      unfold track_Step.f
      rw [if_neg (by decide)]
    rw [e, mid, fin]
    rfl
  · have e : track_Step.f (k + 4) h ai ao wr lie pos jm cl si fa ca true ci co cc cb d0 d1 d2 rs = track_Step.j0 (k + 4) rs true (ci % 256) (co % 256) (w0 true h ai ao wr ci co) (cb % 4) (posN ((gray4 cb - gray4 lie) % 4) pos) (j0 true lie jm cb) cl si fa ca true ci co cc cb d0 d1 d2 := by
      unfold track_Step.f
      rw [if_pos rfl]
      unfold track_told.f axle_Step.f pair_Step.f
      simp only [Option.bind_some]
      rfl
    rw [e, mid, fin]
    rfl
end Go.Proofs.Ytnmcnailgdcmoaa.Track
