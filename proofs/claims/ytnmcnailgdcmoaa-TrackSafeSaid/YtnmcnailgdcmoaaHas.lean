/- Cells that a world holds, carried over what leaves them alone. -/
import Derived.Test.YtnmcnailgdcmoaaTail
namespace Go.Proofs.Ytnmcnailgdcmoaa.Quiet
open Go.RowKit

/-- The world holds these values at these places. -/
def Has (w : World) (l : List (Addr × Value)) : Prop := ∀ p ∈ l, w.cell? p.1 = some p.2
theorem Has.nil (w : World) : Has w [] := fun _ h => by cases h
theorem Has.more {w : World} {l : List (Addr × Value)} (h : Has w l) {a : Addr} {v : Value} (hc : w.cell? a = some v) : Has w ((a, v) :: l) := fun p hp => by
  rcases List.mem_cons.1 hp with rfl | hp
  · exact hc
  · exact h p hp
theorem Has.bel {W w' : World} {l : List (Addr × Value)} (h : Has W l) (hb : Below W.heap.size W w') : Has w' l := fun p hp => Bel.cellA hb (h p hp)
theorem Has.alloc {W : World} {l : List (Addr × Value)} (h : Has W l) (ob : Obj) : Has (W.alloc ob) l := h.bel ((Below.refl _ _).alloc (Nat.le_refl _) ob)
theorem Has.drewN {W : World} {l : List (Addr × Value)} (h : Has W l) (n : Nat) : Has (W.drewN n) l := fun p hp => h p hp
theorem Has.drew {W : World} {l : List (Addr × Value)} (h : Has W l) : Has W.drew l := fun p hp => h p hp
theorem has_cons {w : World} {p : Addr × Value} {l : List (Addr × Value)} : Has w (p :: l) ↔ w.cell? p.1 = some p.2 ∧ Has w l := ⟨fun h => ⟨h p List.mem_cons_self, fun q hq => h q (List.mem_cons_of_mem _ hq)⟩, fun h q hq => by
  rcases List.mem_cons.1 hq with rfl | hq
  · exact h.1
  · exact h.2 q hq⟩
theorem has_nil {w : World} : Has w [] ↔ True := ⟨fun _ => trivial, fun _ => Has.nil w⟩
/-- A new block of cells: where it lies and what it holds. -/
theorem alloc_cell {w : World} {vs : Array Value} {T : TypeId} (k : Nat) : (w.alloc (.cells vs T)).cell? ⟨w.heap.size, k, none⟩ = vs[k]? := by
  have e : (w.alloc (.cells vs T)).heap[w.heap.size]? = some (.cells vs T) := by show (w.heap.push (.cells vs T))[w.heap.size]? = _; simp
  exact cell_of e k
/-- A store into a block that is not among them. -/
theorem Has.set {W w : World} {l : List (Addr × Value)} (h : Has w l) (h0 : Has W l) {b k : Nat} {v : Value} (hb : W.heap.size ≤ b) : Has (w.setCell ⟨b, k, none⟩ v) l := fun p hp => by
  have hlt : p.1.block < W.heap.size := World.block_lt_of_cell? W _ (h0 p hp)
  have e : (w.setCell ⟨b, k, none⟩ v).cell? p.1 = w.cell? p.1 := World.cell?_of_block (w := w) (Below.heap_setCell w ⟨b, k, none⟩ v p.1.block (by show p.1.block ≠ b; omega))
  exact e.trans (h p hp)
theorem frozen_of {w : World} {b : Nat} {vs : Array Value} {T : TypeId} (h : w.heap[b]? = some (.cells vs T)) (k : Nat) : w.frozen? ⟨b, k, none⟩ = false := by
  simp [World.frozen?, h]
theorem Is.has {W0 W : World} {l : List (Addr × Value)} (hi : Is W0 W) (h : Has W l) : Has W0 l := hi.out.symm ▸ h
/-- Behind a statement that made a variable: nothing that was there ahead of the call is touched. -/
theorem Bel.set {w W : World} {b k : Nat} {v : Value} (h : Below w.heap.size w W) (hb : w.heap.size ≤ b) : Below w.heap.size w (W.setCell ⟨b, k, none⟩ v) := h.setCell (p := ⟨b, k, none⟩) hb v
theorem Is.le {w W0 W : World} (hi : Is W0 W) (h : Below w.heap.size w W) {b : Nat} (hb : W0.heap.size ≤ b) : w.heap.size ≤ b := by
  have e := hi.out
  subst e
  exact Nat.le_trans h.size hb

/-- The world has these places, and none is frozen. -/
def Thaw (w : World) (l : List Addr) : Prop := ∀ a ∈ l, a.block < w.heap.size ∧ w.frozen? a = false
theorem Thaw.bel {W w' : World} {l : List Addr} (h : Thaw W l) (hb : Below W.heap.size W w') : Thaw w' l := fun a ha => ⟨Nat.lt_of_lt_of_le (h a ha).1 hb.size, (Below.frozen hb (h a ha).1).trans (h a ha).2⟩
theorem Thaw.set {w : World} {l : List Addr} (h : Thaw w l) (a : Addr) (v : Value) (hf : (w.setCell a v).frozen? = w.frozen?) : Thaw (w.setCell a v) l := fun b hb => ⟨by have := (h b hb).1; simpa [World.setCell] using this, by rw [hf]; exact (h b hb).2⟩
theorem Is.thaw {W0 W : World} {l : List Addr} (hi : Is W0 W) (h : Thaw W l) : Thaw W0 l := hi.out.symm ▸ h
theorem thaw_cons {w : World} {a : Addr} {l : List Addr} : Thaw w (a :: l) ↔ (a.block < w.heap.size ∧ w.frozen? a = false) ∧ Thaw w l := ⟨fun h => ⟨h a List.mem_cons_self, fun q hq => h q (List.mem_cons_of_mem _ hq)⟩, fun h q hq => by
  rcases List.mem_cons.1 hq with rfl | hq
  · exact h.1
  · exact h.2 q hq⟩
theorem thaw_nil {w : World} : Thaw w [] ↔ True := ⟨fun _ => trivial, fun _ _ h => by cases h⟩
end Go.Proofs.Ytnmcnailgdcmoaa.Quiet
