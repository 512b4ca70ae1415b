/-
  A value that reads as data at a type of bools, whole numbers, structs and arrays of such is a row of cells of just these forms; a slice of such reads as a list.
-/
import Derived.ProofKit
import Derived.WalkKit
import Derived.Deep.Slices
import Derived.OpenShut
import Derived.Test.YtnmcnailgdcmoaaWWords
namespace Go.Proofs.Ytnmcnailgdcmoaa.Flat
set_option linter.unusedVariables false
open Go.ChangeShapes Go.WideShapes Go.RowKit Go.Proofs.YtnmcnailgdcmoaaW.PrintWords

inductive Leaf where
  | bool
  | int (k : IntKind)
  | slice
  | other

def LeafOk : Leaf → Value → Prop
  | .bool, v => ∃ b, v = .bool b
  | .int k, v => ∃ n, v = .int k n ∧ (Lit.int k n).wf = true
  | .slice, v => ∃ a l c, v = .slice a l c
  | .other, _ => True

def Fits : List Leaf → List Value → Prop
  | [], [] => True
  | l :: ls, v :: vs => LeafOk l v ∧ Fits ls vs
  | _, _ => False

theorem Fits.cons {l : Leaf} {ls : List Leaf} {cs : List Value} (h : Fits (l :: ls) cs) : ∃ v vs, cs = v :: vs ∧ LeafOk l v ∧ Fits ls vs := by
  cases cs with
  | nil => exact h.elim
  | cons v vs => exact ⟨v, vs, rfl, h.1, h.2⟩
theorem Fits.nil {cs : List Value} (h : Fits [] cs) : cs = [] := by
  cases cs with
  | nil => rfl
  | cons v vs => exact h.elim
theorem Fits.append : ∀ {l1 l2 : List Leaf} {c1 c2 : List Value}, Fits l1 c1 → Fits l2 c2 → Fits (l1 ++ l2) (c1 ++ c2)
  | [], l2, [], c2, _, h2 => h2
  | _ :: l1, l2, _ :: c1, c2, h1, h2 => ⟨h1.1, Fits.append h1.2 h2⟩
  | _ :: _, _, [], _, h1, _ => h1.elim
  | [], _, _ :: _, _, h1, _ => h1.elim
theorem Fits.others : ∀ {n : Nat} {cs : List Value}, cs.length = n → Fits (List.replicate n .other) cs
  | 0, [], _ => trivial
  | n + 1, _ :: cs, h => ⟨trivial, Fits.others (by simpa using h)⟩

/-- Do fields stand one behind the other, from a place to an end? -/
def contig (P : Program) : Nat → Nat → List Field → Bool
  | off, total, [] => off == total
  | off, total, f :: r => f.offset == off && contig P (off + P.cellsOf f.type) total r

def flat (P : Program) : Nat → TypeId → List Leaf
  | 0, t => List.replicate (P.cellsOf t) .other
  | n + 1, t =>
    match P.underlying t with
    | some .bool => [.bool]
    | some (.int k) => [.int k]
    | some (.slice _) => [.slice]
    | some (.struct fs) => if contig P 0 (P.cellsOf t) fs.toList then fs.toList.flatMap (fun f => flat P n f.type) else List.replicate (P.cellsOf t) .other
    | some (.array m e) => if P.cellsOf t == m * P.cellsOf e then (List.range m).flatMap (fun _ => flat P n e) else List.replicate (P.cellsOf t) .other
    | _ => List.replicate (P.cellsOf t) .other

section
variable {H : Type} {enc : TypeId × Value → H} {P : Program} {w : World} {base : Nat} {spare : Nat → Bool} {held : Bool}

theorem trod_len1 {t : TypeId} {fuel : Nat} {cs : List Value} {x : DataW H × List MemPlace} (ht : (∃ k, P.underlying t = some (.int k)) ∨ P.underlying t = some .bool ∨ ∃ e, P.underlying t = some (.slice e))
    (h : DataW.trod enc P w base spare held fuel t cs = some x) : Fits (flat P 1 t) cs := by
  rcases ht with ⟨k, ht⟩ | ht | ⟨e, ht⟩
  · simp only [flat, ht]
    cases fuel with
    | zero => simp [DataW.trod] at h
    | succ n =>
      unfold DataW.trod at h
      rw [ht] at h
      split at h <;> simp_all [Fits, LeafOk]
  · simp only [flat, ht]
    cases fuel with
    | zero => simp [DataW.trod] at h
    | succ n =>
      unfold DataW.trod at h
      rw [ht] at h
      split at h <;> simp_all [Fits, LeafOk]
  · simp only [flat, ht]
    rcases Go.Deep.open_slice ht h with ⟨rfl, _⟩ | ⟨a, len, cap, _, _, _, _, rfl, _⟩
    · exact ⟨⟨_, _, _, rfl⟩, trivial⟩
    · exact ⟨⟨_, _, _, rfl⟩, trivial⟩

/-- What is asked of a type's own reading. -/
def Good (P : Program) (n : Nat) (t : TypeId) : Prop :=
  ∀ {H : Type} {enc : TypeId × Value → H} {w : World} {base : Nat} {spare : Nat → Bool} {held : Bool} {fuel : Nat} {cs : List Value} {x : DataW H × List MemPlace}, cs.length = P.cellsOf t → DataW.trod enc P w base spare held fuel t cs = some x → Fits (flat P n t) cs

theorem fields_fit {n : Nat} (ih : ∀ t, Good P n t) {m : Nat} : ∀ (fs : List Field) (off : Nat) (cs : List Value), contig P off cs.length fs = true → off ≤ cs.length →
    (∀ f, f ∈ fs → f.offset + P.cellsOf f.type ≤ cs.length ∧ ∃ y, DataW.trod enc P w base spare held m f.type ((cs.drop f.offset).take (P.cellsOf f.type)) = some y) → Fits (fs.flatMap (fun f => flat P n f.type)) (cs.drop off)
  | [], off, cs, hc, _, _ => by
    have : off = cs.length := by simpa [contig] using hc
    subst this
    simp [Fits]
  | f :: fs, off, cs, hc, ho, hf => by
    simp only [contig, Bool.and_eq_true, beq_iff_eq] at hc
    obtain ⟨rfl, hc⟩ := hc
    obtain ⟨hle, y, hy⟩ := hf f List.mem_cons_self
    have h1 := ih f.type (cs := (cs.drop f.offset).take (P.cellsOf f.type)) (by simp; omega) hy
    have h2 := fields_fit ih fs (f.offset + P.cellsOf f.type) cs hc hle (fun g hg => hf g (List.mem_cons_of_mem _ hg))
    have e : cs.drop f.offset = (cs.drop f.offset).take (P.cellsOf f.type) ++ cs.drop (f.offset + P.cellsOf f.type) := by
      rw [← List.drop_drop]
      exact (List.take_append_drop _ _).symm
    rw [List.flatMap_cons, e]
    exact h1.append h2

theorem contig_le : ∀ (fs : List Field) (off total : Nat), contig P off total fs = true → off ≤ total ∧ ∀ f, f ∈ fs → f.offset + P.cellsOf f.type ≤ total
  | [], off, total, h => by
    have : off = total := by simpa [contig] using h
    exact ⟨by omega, fun f hf => by simp at hf⟩
  | f :: fs, off, total, h => by
    simp only [contig, Bool.and_eq_true, beq_iff_eq] at h
    obtain ⟨h0, h⟩ := h
    obtain ⟨h1, h2⟩ := contig_le fs _ total h
    refine ⟨by omega, fun g hg => ?_⟩
    rcases List.mem_cons.1 hg with rfl | hg
    · omega
    · exact h2 g hg

theorem array_fit {n : Nat} (ih : ∀ t, Good P n t) {m : Nat} {e : TypeId} {c : Nat} (hc : P.cellsOf e = c) : ∀ (k off : Nat) (cs : List Value), cs.length = off + k * c →
    (∀ i, i < k → ∃ y, DataW.trod enc P w base spare held m e ((cs.drop (off + i * c)).take c) = some y) → ∀ l : List Nat, l.length = k → Fits (l.flatMap (fun _ => flat P n e)) (cs.drop off)
  | 0, off, cs, hl, _, [], _ => by
    have h0 : cs.length = off := by simpa using hl
    rw [List.drop_eq_nil_of_le (by omega)]
    simp [Fits]
  | k + 1, off, cs, hl, hf, a :: l, hll => by
    have hs : (k + 1) * c = c + k * c := by rw [Nat.succ_mul]; omega
    obtain ⟨y, hy⟩ := hf 0 (by omega)
    rw [show off + 0 * c = off by omega] at hy
    have h1 := ih e (cs := (cs.drop off).take c) (by simp; omega) hy
    have h2 := array_fit ih hc k (off + c) cs (by omega) (fun i hi => by
      obtain ⟨y, hy⟩ := hf (i + 1) (by omega)
      have es : (i + 1) * c = c + i * c := by rw [Nat.succ_mul]; omega
      exact ⟨y, by rw [show off + c + i * c = off + (i + 1) * c by omega]; exact hy⟩) l (by simpa using hll)
    have e' : cs.drop off = (cs.drop off).take c ++ cs.drop (off + c) := by
      rw [← List.drop_drop]
      exact (List.take_append_drop _ _).symm
    rw [List.flatMap_cons, e']
    exact h1.append h2
  | 0, _, _, _, _, _ :: _, h => by simp at h
  | _ + 1, _, _, _, _, [], h => by simp at h

theorem good : ∀ (n : Nat) (t : TypeId), Good P n t
  | 0, t => fun hl _ => Fits.others hl
  | n + 1, t => by
    intro hl h
    rename_i H enc w base spare held fuel cs x
    unfold flat
    split
    · next ht => have := trod_len1 (.inr (.inl ht)) h; simpa [flat, ht] using this
    · next k ht => have := trod_len1 (.inl ⟨k, ht⟩) h; simpa [flat, ht] using this
    · next e ht => have := trod_len1 (.inr (.inr ⟨e, ht⟩)) h; simpa [flat, ht] using this
    · next fs ht =>
      split
      · next hc =>
        obtain ⟨xs, m, _, _, hcl, hxs, hf⟩ := DataW.trod_struct ht h
        rw [← hcl] at hc
        obtain ⟨_, hle⟩ := contig_le _ _ _ hc
        have := fields_fit (enc := enc) (w := w) (base := base) (spare := spare) (held := held) (m := m) (good n) fs.toList 0 cs hc (Nat.zero_le _) (fun f hfm => by
          refine ⟨hle f hfm, ?_⟩
          obtain ⟨i, hi, he⟩ := List.getElem_of_mem hfm
          have h1 : fs[i]? = some f := by
            have hi' : i < fs.size := by simpa using hi
            rw [Array.getElem?_eq_getElem hi']
            simpa using he
          have h2 := hf i f h1
          have hx : i < xs.length := by rw [hxs]; simpa using hi
          exact ⟨xs[i], by rw [h2, List.getElem?_eq_getElem hx]⟩)
        simpa using this
      · exact Fits.others hl
    · next m e ht =>
      split
      · next hc =>
        have hc' : P.cellsOf t = m * P.cellsOf e := by simpa using hc
        obtain ⟨xs, k, _, _, hcl, hxs, hf⟩ := DataW.trod_array ht h
        have := array_fit (enc := enc) (w := w) (base := base) (spare := spare) (held := held) (m := k) (good n) (e := e) rfl m 0 cs (by omega) (fun i hi => by
          have h2 := hf i hi
          have hx : i < xs.length := by omega
          exact ⟨xs[i], by rw [show 0 + i * P.cellsOf e = i * P.cellsOf e by omega, h2, List.getElem?_eq_getElem hx]⟩) (List.range m) (by simp)
        simpa using this
      · exact Fits.others hl
    · exact Fits.others hl

/-- A STRUCT OR AN ARRAY BY VALUE: its cells. -/
theorem open_flat {n b0 : Nat} {t : TypeId} {v : Value} {d : DataW H} {ps : List MemPlace} {ls : List Leaf} (hf : flat P n t = ls)
    (hv : Value.okWide P w .any b0 t v) (hagg : (match P.underlying t with | some (.struct _) | some (.array _ _) => true | _ => false) = true) (h : DataW.Trod enc P w base spare held t v d ps) : ∃ cs, v = .agg cs.toArray ∧ Fits ls cs := by
  obtain ⟨fuel, h⟩ := h
  have hag : ∃ cs : Array Value, v = .agg cs ∧ cs.size = P.cellsOf t := by
    unfold Value.okWide at hv
    split at hv
    · obtain ⟨cs, e, hs, _⟩ := hv
      exact ⟨cs, e, hs⟩
    · obtain ⟨cs, e, hs, _⟩ := hv
      exact ⟨cs, e, hs⟩
    · next h1 h2 =>
      split at hagg
      · next fs hu => exact absurd hu (h1 fs)
      · next k e hu => exact absurd hu (h2 k e)
      · cases hagg
  obtain ⟨cs, rfl, hcs⟩ := hag
  refine ⟨cs.toList, by simp, ?_⟩
  have := good n t (fuel := fuel) (cs := cs.toList) (by simpa using hcs) (by simpa [Value.cells] using h)
  rwa [hf] at this

/-- A SLICE OF SUCH: a list. -/
theorem open_rows {α : Type} {K : α → List Value → Prop} {n sz : Nat} {t e : TypeId} {a : Option Addr} {len cap : Nat} {d : DataW H} {ps : List MemPlace} {ls : List Leaf} (ht : P.underlying t = some (.slice e)) (hsz : P.cellsOf e = sz) (hf : flat P n e = ls)
    (mk : ∀ cs, Fits ls cs → ∃ x, K x cs) (h : DataW.Trod enc P w base spare held t (.slice a len cap) d ps) : len ≤ cap ∧ cap ≤ maxLen ∧ ∃ l : List α, ReadsRow K sz w a len l := by
  obtain ⟨fuel, h⟩ := h
  rcases Go.Deep.open_slice ht h with ⟨hcs, _⟩ | ⟨a', len', cap', m, k, D, Pl, hcs, _, hle, hmx, hm, _, hx⟩
  · simp [Value.cells] at hcs
    obtain ⟨rfl, rfl, rfl⟩ := hcs
    exact ⟨Nat.le_refl _, by unfold maxLen; omega, [], rfl, by omega, fun h => absurd h (Nat.lt_irrefl 0)⟩
  · simp [Value.cells] at hcs
    obtain ⟨rfl, rfl, rfl⟩ := hcs
    refine ⟨hle, hmx, ?_⟩
    have hlm : len ≤ m := by rw [hm]; split <;> omega
    have hex : ∀ i, i < len → ∃ x : α, ∃ c, c.length = sz ∧ K x c ∧ ∀ j u, c[j]? = some u → w.cell? (a'.add (i * sz + j)) = some u := by
      intro i hi
      obtain ⟨cs', h1, h2⟩ := hx i (by omega)
      obtain ⟨_, hlen, hcell⟩ := World.cells?_some h1
      have hfit := good n e (fuel := k) (cs := cs') hlen h2
      rw [hf] at hfit
      obtain ⟨x, hK⟩ := mk _ hfit
      refine ⟨x, cs', by omega, hK, fun j u hj => ?_⟩
      have hj' : j < cs'.length := (List.getElem?_eq_some_iff.1 hj).1
      have := hcell j (by omega)
      rw [Go.Deep.add_add, hsz, hj] at this
      exact this
    have hall : ∀ k, k ≤ len → ∃ l : List α, l.length = k ∧ ∀ i x, l[i]? = some x → ∃ c, c.length = sz ∧ K x c ∧ ∀ j u, c[j]? = some u → w.cell? (a'.add (i * sz + j)) = some u := by
      intro k
      induction k with
      | zero => exact fun _ => ⟨[], rfl, fun i x h => by simp at h⟩
      | succ k ih =>
        intro hk
        obtain ⟨l, hl, hp⟩ := ih (by omega)
        obtain ⟨x, hxx⟩ := hex k (by omega)
        refine ⟨l ++ [x], by simp [hl], fun i y hi => ?_⟩
        by_cases hik : i < l.length
        · rw [List.getElem?_append_left hik] at hi
          exact hp i y hi
        · rw [List.getElem?_append_right (by omega)] at hi
          have hi0 : i - l.length = 0 := by
            rcases Nat.eq_zero_or_pos (i - l.length) with h0 | h0
            · exact h0
            · rw [List.getElem?_eq_none (by simp; omega)] at hi; cases hi
          rw [hi0] at hi
          have : x = y := by simpa using hi
          subst this
          obtain rfl : i = k := by omega
          exact hxx
    obtain ⟨l, hl, hp⟩ := hall len (Nat.le_refl _)
    have : maxLen ≤ 9223372036854775807 := by unfold maxLen; omega
    exact ⟨l, hl, by omega, fun _ => ⟨a', rfl, hp⟩⟩
/-- A FIELD OF A STRUCT BY VALUE, of one cell: it reads as data too. -/
theorem open_field {t st : TypeId} {fs : Array Field} (i off : Nat) {cs : List Value} {v : Value} {d : DataW H} {ps : List MemPlace} (ht : P.underlying t = some (.struct fs)) (hf : (fs[i]?).map (fun f => (f.offset, f.type)) = some (off, st))
    (h1 : P.cellsOf st = 1) (hv : (cs.drop off).take 1 = [v]) (hc : v.cells.toList = [v]) (h : DataW.Trod enc P w base spare held t (.agg cs.toArray) d ps) : ∃ d' ps', DataW.Trod enc P w base spare held st v d' ps' := by
  obtain ⟨fuel, h⟩ := h
  obtain ⟨xs, m, _, _, hcl, hxs, hff⟩ := DataW.trod_struct ht h
  cases hfi : fs[i]? with
  | none => rw [hfi] at hf; simp at hf
  | some f =>
    rw [hfi] at hf
    simp only [Option.map_some, Option.some.injEq, Prod.mk.injEq] at hf
    obtain ⟨rfl, rfl⟩ := hf
    have h2 := hff i f hfi
    have hi : i < fs.size := (Array.getElem?_eq_some_iff.1 hfi).1
    have hx : i < xs.length := by omega
    rw [List.getElem?_eq_getElem hx, h1] at h2
    refine ⟨xs[i].1, xs[i].2, m, ?_⟩
    rw [hc, ← hv]
    simpa [Value.cells] using h2
end
end Go.Proofs.Ytnmcnailgdcmoaa.Flat
