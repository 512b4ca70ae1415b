/- Whether any track is so, whether nothing is wrong, and whether the road is to be closed. -/
import Derived.Test.YtjjnfjhhimijmaaHandGood
namespace Go.Proofs.Ytjjnfjhhimijmaa.Pure
open Go.RowKit Go.Proofs.Ytjjnfjhhimijmaa.A Go.Proofs.YtjjnfjhhimijmaaW.PrintWords Go.Proofs.YtjjnfjhhimijmaaW.PrintLast
set_option linter.unusedVariables false
set_option linter.unusedSimpArgs false

theorem rd_drop (l : List S39) (i : Int) (h0 : 0 ≤ i) (h1 : i < l.length) : l.drop i.toNat = rd_T39 l i :: l.drop (i + 1).toNat := by
  have hi : i.toNat < l.length := by omega
  rw [List.drop_eq_getElem_cons hi, show (i + 1).toNat = i.toNat + 1 by omega]
  congr 1
  unfold rd_T39
  rw [List.getD_eq_getElem?_getD, List.getElem?_eq_getElem hi]
  rfl
theorem any_evd (g : S39 → Bool) (l : List S39) (hl : (l.length : Int) ≤ 1000) : ∀ (d : Nat) (i : Int), 0 ≤ i → i + d = l.length → Ev (fun k => anyL g k l i) ((l.drop i.toNat).any g)
  | 0, i, h0, h1 => by
    have e : l.drop i.toNat = [] := List.drop_eq_nil_of_le (by omega)
    rw [e]
    exact Ev.step (f := fun _ => some false) (fun k => by simp only [anyL]; rw [if_neg (by omega)]) (Ev.now false)
  | d + 1, i, h0, h1 => by
    have e : wrap64 (i + 1) = i + 1 := by unfold wrap64; omega
    have hb := any_evd g l hl d (i + 1) (by omega) (by omega)
    rw [rd_drop l i h0 (by omega), List.any_cons]
    rcases Bool.eq_false_or_eq_true (g (rd_T39 l i)) with hc | hc
    · rw [hc, Bool.true_or]
      exact Ev.step (f := fun _ => some true) (fun k => by rw [anyL, if_pos (show i < (l.length : Int) by omega), if_pos h0, if_pos hc]) (Ev.now true)
    · rw [hc, Bool.false_or]
      exact Ev.step (f := fun k => anyL g k l (i + 1)) (fun k => by rw [anyL, if_pos (show i < (l.length : Int) by omega), if_pos h0, if_neg (by rw [hc]; decide), e]) hb
theorem any_ev (g : S39 → Bool) (l : List S39) (hl : (l.length : Int) ≤ 1000) : Ev (fun k => anyL g k l 0) (l.any g) := by
  have := any_evd g l hl l.length 0 (by omega) (by omega)
  simpa using this

def goodB (lamps : Bool) (mode : Int) (mains : Bool) (l : List S39) : Bool := !(decide (mode = 1)) && (mains && (lamps && !(l.any fun x => x.f4)))
def closeB (good : Bool) (locked : Bool) (routes : Int) (l : List S39) (op : Bool) : Bool := !good || (locked || (!(decide (routes = 0)) || (l.any fun x => x.f5 || (!x.f2 && !op))))
theorem good_ev (a0 a1 a2 a3 a4 a5 a6 : Bool) (a7 : Int) (a8 a9 : Bool) (a10 : Int) (l0 : List S81) (l : List S39) (hl : (l.length : Int) ≤ 1000) :
    Ev (fun k => demand_Good.f k a0 a1 a2 a3 a4 a5 a6 a7 a8 a9 a10 l0 l) (goodB a5 a7 a8 l) := by
  simp only [demand_Good.f]
  refine Ev.bind (any_ev _ l hl) ?_
  exact Ev.now _
theorem of_ev (a0 a1 a2 a3 a4 a5 a6 : Bool) (a7 : Int) (a8 a9 : Bool) (a10 : Int) (l0 : List S81) (l : List S39) (locked op : Bool) (hl : (l.length : Int) ≤ 1000) :
    Ev (fun k => demand_Of.f k a0 a1 a2 a3 a4 a5 a6 a7 a8 a9 a10 l0 l locked op) (closeB (goodB a5 a7 a8 l) locked a10 l op, !(goodB a5 a7 a8 l)) := by
  simp only [demand_Of.f]
  refine Ev.bind (good_ev a0 a1 a2 a3 a4 a5 a6 a7 a8 a9 a10 l0 l hl) ?_
  refine Ev.bind (any_ev _ l hl) ?_
  exact Ev.now _
end Go.Proofs.Ytjjnfjhhimijmaa.Pure
