/- What the plain laws of chapter 19 share: whether any track is so, whether nothing is wrong, and whether the road is to be closed. -/
import Derived.Test.YtjjnfjhhimijmaaAx3
import Derived.Test.YtjjnfjhhimijmaaPureAny
namespace Go.Proofs.Ytjjnfjhhimijmaa.Pure
open Go.RowKit Go.Proofs.Ytjjnfjhhimijmaa.A Go.Proofs.YtjjnfjhhimijmaaW.PrintWords Go.Proofs.YtjjnfjhhimijmaaW.PrintLast
set_option linter.unusedVariables false
set_option linter.unusedSimpArgs false

theorem refgood_evd (a0 a1 a2 a3 a4 a5 a6 : Bool) (a7 : Int) (a8 a9 : Bool) (a10 : Int) (l0 : List S81) (l : List S39) (hl : (l.length : Int) ≤ 1000) : ∀ (d : Nat) (i : Int), 0 ≤ i → i + d = l.length →
    Ev (fun k => crossbuckref19_Good.l0 k l i a0 a1 a2 a3 a4 a5 a6 a7 a8 a9 a10 l0) (goodB a5 a7 a8 (l.drop i.toNat))
  | 0, i, h0, h1 => by
    have e : l.drop i.toNat = [] := List.drop_eq_nil_of_le (by omega)
    rw [e]
    refine Ev.step (f := fun _ => some (goodB a5 a7 a8 [])) (fun k => ?_) (Ev.now _)
    simp only [crossbuckref19_Good.l0]
    rw [if_neg (by omega)]
    unfold goodB
    by_cases g : a7 = 1
    · rw [if_pos g, decide_eq_true g]; rfl
    · rw [if_neg g, decide_eq_false g]
      cases a8 <;> cases a5 <;> rfl
  | d + 1, i, h0, h1 => by
    have e : wrap64 (i + 1) = i + 1 := by unfold wrap64; omega
    have hb := refgood_evd a0 a1 a2 a3 a4 a5 a6 a7 a8 a9 a10 l0 l hl d (i + 1) (by omega) (by omega)
    have er := rd_drop l i h0 (by omega)
    rcases Bool.eq_false_or_eq_true (rd_T39 l i).f4 with hc | hc
    · have : goodB a5 a7 a8 (l.drop i.toNat) = false := by unfold goodB; rw [er, List.any_cons, hc]; simp
      rw [this]
      exact Ev.step (f := fun _ => some false) (fun k => by rw [crossbuckref19_Good.l0, if_pos (show i < (l.length : Int) by omega), if_pos h0, if_pos hc]) (Ev.now false)
    · have : goodB a5 a7 a8 (l.drop i.toNat) = goodB a5 a7 a8 (l.drop (i + 1).toNat) := by unfold goodB; rw [er, List.any_cons, hc]; simp
      rw [this]
      exact Ev.step (f := fun k => crossbuckref19_Good.l0 k l (i + 1) a0 a1 a2 a3 a4 a5 a6 a7 a8 a9 a10 l0) (fun k => by rw [crossbuckref19_Good.l0, if_pos (show i < (l.length : Int) by omega), if_pos h0, if_neg (by rw [hc]; decide), e]) hb
theorem refgood_ev (a0 a1 a2 a3 a4 a5 a6 : Bool) (a7 : Int) (a8 a9 : Bool) (a10 : Int) (l0 : List S81) (l : List S39) (hl : (l.length : Int) ≤ 1000) :
    Ev (fun k => crossbuckref19_Good.f k a0 a1 a2 a3 a4 a5 a6 a7 a8 a9 a10 l0 l) (goodB a5 a7 a8 l) := by
  have := refgood_evd a0 a1 a2 a3 a4 a5 a6 a7 a8 a9 a10 l0 l hl l.length 0 (by omega) (by omega)
  simpa [crossbuckref19_Good.f] using this
theorem refof_evd (l : List S39) (hl : (l.length : Int) ≤ 1000) (op u : Bool) : ∀ (d : Nat) (i : Int) (shut : Bool), 0 ≤ i → i + d = l.length →
    Ev (fun k => crossbuckref19_Of.l0 k l op u shut i) (shut || ((l.drop i.toNat).any fun x => x.f5 || (!x.f2 && !op)), u)
  | 0, i, shut, h0, h1 => by
    have e : l.drop i.toNat = [] := List.drop_eq_nil_of_le (by omega)
    rw [e]
    refine Ev.step (f := fun _ => some (shut || false, u)) (fun k => ?_) (Ev.now _)
    simp only [crossbuckref19_Of.l0]
    rw [if_neg (by omega), Bool.or_false]
  | d + 1, i, shut, h0, h1 => by
    have e : wrap64 (i + 1) = i + 1 := by unfold wrap64; omega
    have hb := fun s => refof_evd l hl op u d (i + 1) s (by omega) (by omega)
    have er := rd_drop l i h0 (by omega)
    have key : (shut || ((l.drop i.toNat).any fun x => x.f5 || (!x.f2 && !op))) = ((shut || ((rd_T39 l i).f5 || (!(rd_T39 l i).f2 && !op))) || ((l.drop (i + 1).toNat).any fun x => x.f5 || (!x.f2 && !op))) := by
      rw [er, List.any_cons]
      simp only [Bool.or_assoc]
    rw [key]
    refine Ev.step (f := fun k => crossbuckref19_Of.l0 k l op u (shut || ((rd_T39 l i).f5 || (!(rd_T39 l i).f2 && !op))) (i + 1)) (fun k => ?_) (hb _)
    rw [crossbuckref19_Of.l0, if_pos (show i < (l.length : Int) by omega), if_pos h0, e]
    cases shut <;> cases (rd_T39 l i).f5 <;> cases op <;> simp
theorem refof_ev (a0 a1 a2 a3 a4 a5 a6 : Bool) (a7 : Int) (a8 a9 : Bool) (a10 : Int) (l0 : List S81) (l : List S39) (locked op : Bool) (hl : (l.length : Int) ≤ 1000) :
    Ev (fun k => crossbuckref19_Of.f k a0 a1 a2 a3 a4 a5 a6 a7 a8 a9 a10 l0 l locked op) (closeB (goodB a5 a7 a8 l) locked a10 l op, !(goodB a5 a7 a8 l)) := by
  simp only [crossbuckref19_Of.f]
  refine Ev.bind (refgood_ev a0 a1 a2 a3 a4 a5 a6 a7 a8 a9 a10 l0 l hl) ?_
  have hj : ∀ s, Ev (fun k => crossbuckref19_Of.j0 k l op (!(goodB a5 a7 a8 l)) s) (s || (l.any fun x => x.f5 || (!x.f2 && !op)), !(goodB a5 a7 a8 l)) := fun s => by
    have := refof_evd l hl op (!(goodB a5 a7 a8 l)) l.length 0 s (by omega) (by omega)
    exact Ev.step (f := fun k => crossbuckref19_Of.l0 k l op (!(goodB a5 a7 a8 l)) s 0) (fun k => by rw [crossbuckref19_Of.j0]) (by simpa using this)
  unfold closeB
  cases hg : goodB a5 a7 a8 l
  · have := hj true
    rw [hg] at this
    simpa using this
  · rw [hg] at hj
    by_cases g : a10 = 0
    · have := hj locked
      simpa [g] using this
    · have := hj true
      simpa [g] using this
end Go.Proofs.Ytjjnfjhhimijmaa.Pure
