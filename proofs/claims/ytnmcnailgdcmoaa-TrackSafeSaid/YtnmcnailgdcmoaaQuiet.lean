/- A region that draws its order, whose operations only read and whose callees leave alone what was there ('Below'), walked once in the order of the text: small laws, over any program. -/
import Derived.Deep.Quiet
import Derived.Below
import Derived.WalkKit
import Derived.KernelRfl
namespace Go.Proofs.Ytnmcnailgdcmoaa.Quiet
open Go.RowKit

/-- The worlds that are as W was below W's end. -/
def Bel (W w' : World) : Prop := Below W.heap.size W w'
theorem Bel.cell {W w' : World} (h : Bel W w') {b o : Nat} {v : Value} (hc : W.cell? ⟨b, o, none⟩ = some v) : w'.cell? ⟨b, o, none⟩ = some v :=
  (Below.cell h (p := ⟨b, o, none⟩) (World.block_lt_of_cell? W _ hc)).trans hc
theorem Bel.cellA {W w' : World} (h : Bel W w') {a : Addr} {v : Value} (hc : W.cell? a = some v) : w'.cell? a = some v :=
  (Below.cell h (p := a) (World.block_lt_of_cell? W _ hc)).trans hc
theorem Bel.step {W w' w'' : World} (h : Bel W w') (hb : Below w'.heap.size w' w'') : Bel W w'' := Below.trans h (hb.mono h.size)

theorem bel_all {W : World} {p : Prop} : (∀ w', Bel W w' → p) ↔ p := ⟨fun h => h W (Below.refl _ _), fun h _ _ => h⟩

/-- What the world is, kept from the walk. -/
structure Is (W0 W : World) : Prop where mk :: (out : W0 = W)

/-- Behind the region nothing that was there ahead of the call is touched. -/
theorem Bel.out {w W0 W w2 : World} (h : Below w.heap.size w W) (hi : Is W0 W) (hb : Bel W0 w2) : Below w.heap.size w w2 := by
  have e := hi.out
  subst e
  exact h.trans (hb.mono h.size)

section
variable {P : Program} {ops : Array Oper} {Q : Act → Prop} {a : Act} {o : Oper} {rest : List Oper} {W : World}

theorem start {id : Nat} {Q : Exit → Act → World → Prop} {l : List Oper} (S : World → Prop) (hm : P.follows .mixedOrders = true) (hB : Region.lexB .any l.toArray = true) (hS : ∀ w', Bel W w' → S w')
    (h : ∀ W0, Is W0 W → (∀ w', Bel W0 w' → S w') → wpQuiet P l.toArray (Bel W0) (fun a' => ∀ w', Bel W0 w' → Q .normal a' w') l a) : (Code.region id l.toArray true).wp P Q a W :=
  wp_region_quiet (C := Bel W) hm hB ⟨rfl, rfl, rfl, Nat.le_refl _, fun _ _ => rfl⟩ (by simpa using h W ⟨rfl⟩ hS)

theorem skip (a' : Act) (hw : Region.wanted o (yielded ops a.tmps) = false) (ha : a.put o.dst undef = a') (h : wpQuiet P ops (Bel W) Q rest a') : wpQuiet P ops (Bel W) Q (o :: rest) a := by
  subst ha
  exact wpQuiet_step fun K hK => by rw [if_neg (by rw [hw]; exact Bool.false_ne_true)]; exact hK _ h

theorem val (v : Value) (a' : Act) (hw : Region.wanted o (yielded ops a.tmps) = true) (hrun : ∀ w', Bel W w' → (execOp a.eval o).run P w' = .ok (.value v) w') (ha : a.put o.dst v = a')
    (h : wpQuiet P ops (Bel W) Q rest a') : wpQuiet P ops (Bel W) Q (o :: rest) a := by
  subst ha
  exact wpQuiet_step fun K hK => by
    rw [if_pos hw]
    exact ⟨v, fun w' hC => by unfold Oper.quietAt; rw [hrun w' hC]; exact ⟨rfl, rfl⟩, hK _ h⟩

theorem call {f : FuncId} {fn : Func} {as : Array Operand} {ts : Array TypeId} (v : Value) (a' : Act) (hw : Region.wanted o (yielded ops a.tmps) = true) (hop : o.op = .call { callee := .value (.func f), args := as, argTypes := ts })
    (hf : P.funcs[f]? = some fn) (hname : (fn.name == "runtime.NumGoroutine") = false) (hb : fn.body.isSome = true) {args : Array Value} (hargs : as.map a.eval = args)
    (hc : ∀ w', Bel W w' → Calls P f args w' fun e w'' => e = .returned v ∧ Below w'.heap.size w' w'') (ha : a.put o.dst v = a')
    (h : wpQuiet P ops (Bel W) Q rest a') : wpQuiet P ops (Bel W) Q (o :: rest) a := by
  subst ha
  subst hargs
  have h1 : fn.name ≠ "runtime.NumGoroutine" := by simpa using hname
  obtain ⟨c, hc'⟩ := Option.isSome_iff_exists.1 hb
  have hrun : ∀ w', (execOp a.eval o).run P w' = .ok (.enter f (as.map a.eval)) w' := fun w' => by
    have he : (callFunc f (as.map a.eval)).run P w' = .ok (.enter f (as.map a.eval)) w' := by simp [callFunc, hf, h1, hc']
    unfold execOp
    simp [hop, resolve, Deferred.ofValue, invoke, Act.eval, he]
  exact wpQuiet_step fun K hK => by
    rw [if_pos hw]
    exact ⟨v, fun w' hC => by unfold Oper.quietAt; rw [hrun w']; exact ⟨rfl, (hc w' hC).mono fun e w'' ⟨he, hb'⟩ => ⟨he, hC.step hb'⟩⟩, hK _ h⟩

theorem done (h : Q a) : wpQuiet P ops (Bel W) Q [] a := h
end
end Go.Proofs.Ytnmcnailgdcmoaa.Quiet
