/- A region that draws its order: callees that leave alone what was there, at most one new variable made, and one operation that comes last (a store): walked once in the order of the text. Small laws over any program. -/
import Derived.Test.YtnmcnailgdcmoaaQuiet
namespace Go.Proofs.Ytnmcnailgdcmoaa.Quiet
open Go.RowKit

theorem put_ne (a : Act) (x : Option Tmp) (v : Value) (t : Tmp) (h : x ≠ some t) : (a.put x v).tmps[t]? = a.tmps[t]? := by
  cases x with
  | none => rfl
  | some d => simp only [Act.put]; exact Array.getElem?_setIfInBounds_ne (fun e => h (congrArg some e))
theorem put_eq (a : Act) (d : Tmp) (v : Value) (h : d < a.tmps.size) : (a.put (some d) v).tmps[d]? = some v := by
  simp [Act.put, h]
theorem put_size (a : Act) (x : Option Tmp) (v : Value) : (a.put x v).tmps.size = a.tmps.size := by
  cases x <;> simp [Act.put]
theorem put_defers (a : Act) (x : Option Tmp) (v : Value) : (a.put x v).defers = a.defers := by
  cases x <;> rfl

/-- b is a but for the slots that these operations fill. -/
structure Like (l : List Oper) (a b : Act) : Prop where
  defers : b.defers = a.defers
  size : b.tmps.size = a.tmps.size
  slot : ∀ t, (∀ o ∈ l, o.dst ≠ some t) → b.tmps[t]? = a.tmps[t]?

section
variable {P : Program} {ops : Array Oper}

theorem stepQ {C : World → Prop} {Q : Act → Prop} {o : Oper} {rest : List Oper} {a : Act} (h : wpQuiet P ops C Q (o :: rest) a) :
    ∃ v, YieldsIn P ops C o v a ∧ wpQuiet P ops C Q rest (a.put o.dst v) := by
  unfold wpQuiet at h
  by_cases hw : Region.wanted o (yielded ops a.tmps) = true
  · simp only [hw, if_true] at h
    obtain ⟨v, h1, h2⟩ := h
    exact ⟨v, .inl ⟨hw, h1⟩, h2⟩
  · simp only [hw] at h
    exact ⟨undef, .inr ⟨by simpa using hw, rfl⟩, h⟩

theorem like_of {C : World → Prop} {aF : Act} : ∀ (l : List Oper) (a : Act), wpQuiet P ops C (fun x => x = aF) l a → Like l a aF
  | [], a, h => by
    have h : a = aF := h
    subst h
    exact ⟨rfl, rfl, fun _ _ => rfl⟩
  | o :: rest, a, h => by
    obtain ⟨v, _, h2⟩ := stepQ h
    have hl := like_of rest _ h2
    exact ⟨hl.defers.trans (put_defers ..), hl.size.trans (put_size ..), fun t ht =>
      (hl.slot t fun x hx => ht x (List.mem_cons_of_mem _ hx)).trans (put_ne _ _ _ _ (ht o List.mem_cons_self))⟩

theorem chain {C : World → Prop} {aF : Act} {o : Oper} {q : List Oper} : ∀ (p : List Oper) (a : Act), wpQuiet P ops C (fun x => x = aF) (p ++ o :: q) a →
    ∃ a1 v, YieldsIn P ops C o v a1 ∧ Like p a a1 ∧ Like q (a1.put o.dst v) aF
  | [], a, h => by
    obtain ⟨v, h1, h2⟩ := stepQ h
    exact ⟨a, v, h1, ⟨rfl, rfl, fun _ _ => rfl⟩, like_of _ _ h2⟩
  | x :: p, a, h => by
    obtain ⟨v, _, h2⟩ := stepQ (o := x) (rest := p ++ o :: q) h
    obtain ⟨a1, u, hy, hl, hq⟩ := chain p _ h2
    exact ⟨a1, u, hy, ⟨hl.defers.trans (put_defers ..), hl.size.trans (put_size ..), fun t ht =>
      (hl.slot t fun y hy => ht y (List.mem_cons_of_mem _ hy)).trans (put_ne _ _ _ _ (ht x List.mem_cons_self))⟩, hq⟩

theorem split_at {α : Type} : ∀ (L : List α) (i k : Nat) (o : α), L[i]? = some o → i ≠ k →
    ∃ p q, L.eraseIdx k = p ++ o :: q ∧ (∀ x ∈ p, ∃ j, j < i ∧ j ≠ k ∧ L[j]? = some x) ∧ (∀ x ∈ q, ∃ j, i < j ∧ j ≠ k ∧ L[j]? = some x)
  | [], i, k, o, h, _ => by simp at h
  | y :: L, 0, 0, o, h, hne => absurd rfl hne
  | y :: L, 0, k + 1, o, h, _ => by
    have e : y = o := by simpa using h
    subst e
    refine ⟨[], L.eraseIdx k, by simp, by simp, fun x hx => ?_⟩
    obtain ⟨j, hj, hx'⟩ := List.mem_eraseIdx_iff_getElem?.1 hx
    exact ⟨j + 1, by omega, by omega, by simpa using hx'⟩
  | y :: L, i + 1, 0, o, h, _ => by
    have h' : L[i]? = some o := by simpa using h
    obtain ⟨hi, ho⟩ := List.getElem?_eq_some_iff.1 h'
    refine ⟨L.take i, L.drop (i + 1), ?_, fun x hx => ?_, fun x hx => ?_⟩
    · rw [List.eraseIdx_cons_zero, ← ho, List.getElem_cons_drop, List.take_append_drop]
    · obtain ⟨j, hj⟩ := List.mem_iff_getElem?.1 hx
      rw [List.getElem?_take] at hj
      by_cases hji : j < i
      · rw [if_pos hji] at hj; exact ⟨j + 1, by omega, by omega, by simpa using hj⟩
      · rw [if_neg hji] at hj; cases hj
    · obtain ⟨j, hj⟩ := List.mem_iff_getElem?.1 hx
      rw [List.getElem?_drop] at hj
      exact ⟨i + 1 + j + 1, by omega, by omega, by simpa using hj⟩
  | y :: L, i + 1, k + 1, o, h, hne => by
    obtain ⟨p, q, he, hp, hq⟩ := split_at L i k o (by simpa using h) (by omega)
    refine ⟨y :: p, q, by simp [he], fun x hx => ?_, fun x hx => ?_⟩
    · rcases List.mem_cons.1 hx with rfl | hx
      · exact ⟨0, by omega, by omega, by simp⟩
      · obtain ⟨j, h1, h2, h3⟩ := hp x hx
        exact ⟨j + 1, by omega, by omega, by simpa using h3⟩
    · obtain ⟨j, h1, h2, h3⟩ := hq x hx
      exact ⟨j + 1, by omega, by omega, by simpa using h3⟩

/-- The region's last operation waits for all others; each other's slot is its own, and who looks at it waits for it; the new variable is looked at by the last one alone. -/
structure Flow (ops : Array Oper) (n iA : Nat) : Prop where
  size : ops.size = n + 1
  back : ∀ k o, ops[k]? = some o → ∀ e ∈ o.after, Region.binds .any e = true → e.on < k
  looks : ∀ k o, k < n → ops[k]? = some o → ∀ j x t, j < n → ops[j]? = some x → x.dst = some t → t ∈ o.looksAt ops → j ≠ iA ∧ ∃ e ∈ o.after, Region.binds .any e = true ∧ e.on = j
  dsts : ∀ k o, k < n → ops[k]? = some o → ∀ j x t, j < n → ops[j]? = some x → x.dst = some t → o.dst = some t → j = k
  next : ∀ k, k < n → ∃ m o, k < m ∧ m ≤ n ∧ ops[m]? = some o ∧ ∃ e ∈ o.after, Region.binds .any e = true ∧ e.on = k
  nosel : Region.noSelect ops = true
  last : ∀ o, ops[n]? = some o → o.guard = none
  alone : iA < n → ∀ o, ops[iA]? = some o → o.guard = none

def waitsB (o : Oper) (k : Nat) : Bool := o.after.any fun e => Region.binds .any e && e.on == k
def flowB (ops : Array Oper) (n iA : Nat) : Bool :=
  ops.size == n + 1 && Region.noSelect ops && (((ops[n]?).map fun o => o.guard.isNone).getD false) && (!decide (iA < n) || (((ops[iA]?).map fun o => o.guard.isNone).getD false)) &&
  (List.range (n + 1)).all fun k => match ops[k]? with
    | none => false
    | some o => (o.after.all fun e => !Region.binds .any e || decide (e.on < k)) &&
      (k == n || ((List.range (n + 1)).any fun m => decide (k < m) && (((ops[m]?).map fun y => waitsB y k).getD false)) &&
        (List.range n).all fun j => match ops[j]? with
          | none => true
          | some x => match x.dst with
            | none => true
            | some t => (!(o.looksAt ops).contains t || (j != iA && waitsB o j)) && (o.dst != some t || j == k))

theorem waits_spec {o : Oper} {k : Nat} (h : waitsB o k = true) : ∃ e ∈ o.after, Region.binds .any e = true ∧ e.on = k := by
  obtain ⟨e, he, hb⟩ := Array.any_eq_true'.1 h
  simp only [Bool.and_eq_true, beq_iff_eq] at hb
  exact ⟨e, he, hb.1, hb.2⟩

theorem flow_of {n iA : Nat} (h : flowB ops n iA = true) : Flow ops n iA := by
  simp only [flowB, Bool.and_eq_true, beq_iff_eq, List.all_eq_true, List.mem_range] at h
  obtain ⟨⟨⟨⟨hsz, hns⟩, hl⟩, ha⟩, hall⟩ := h
  have hk : ∀ k o, ops[k]? = some o → k < n + 1 := fun k o ho => hsz ▸ (Array.getElem?_eq_some_iff.1 ho).1
  have key : ∀ k o, ops[k]? = some o → _ := fun k o ho => by
    have := hall k (hk k o ho)
    simp only [ho, Bool.and_eq_true, Bool.or_eq_true, beq_iff_eq] at this
    exact this
  refine ⟨hsz, fun k o ho e he hb => ?_, fun k o hkn ho j x t hj hx hxt ht => ?_, fun k o hkn ho j x t hj hx hxt hot => ?_, fun k hkn => ?_, hns, fun o ho => ?_, fun hA o ho => ?_⟩
  · have := Array.all_eq_true_iff_forall_mem.1 (key k o ho).1 e he
    simpa [hb] using this
  · have := (key k o ho).2.resolve_left (by omega)
    have := List.all_eq_true.1 this.2 j (List.mem_range.2 hj)
    simp only [hx, hxt, Bool.and_eq_true, Bool.or_eq_true, Bool.not_eq_true', List.contains_eq_mem, decide_eq_false_iff_not, bne_iff_ne, ne_eq] at this
    have := this.1.resolve_left (fun hn => hn ht)
    exact ⟨this.1, waits_spec this.2⟩
  · have := (key k o ho).2.resolve_left (by omega)
    have := List.all_eq_true.1 this.2 j (List.mem_range.2 hj)
    simp only [hx, hxt, Bool.and_eq_true, Bool.or_eq_true, bne_iff_ne, ne_eq, beq_iff_eq] at this
    exact this.2.resolve_left (fun hn => hn hot)
  · have hlt : k < ops.size := by omega
    obtain ⟨o, ho⟩ : ∃ o, ops[k]? = some o := ⟨ops[k], by simp [hlt]⟩
    have := (key k o ho).2.resolve_left (by omega)
    obtain ⟨m, hm, hb⟩ := List.any_eq_true.1 this.1
    simp only [Bool.and_eq_true, decide_eq_true_eq] at hb
    cases hy : ops[m]? with
    | none => simp [hy] at hb
    | some y =>
      simp only [hy, Option.map_some, Option.getD_some] at hb
      exact ⟨m, y, hb.1, by have := List.mem_range.1 hm; omega, hy, waits_spec hb.2⟩
  · simpa [ho] using hl
  · simp only [Bool.or_eq_true, Bool.not_eq_true', decide_eq_false_iff_not] at ha
    have := ha.resolve_left (fun hn => hn hA)
    simpa [ho] using this

/-- Midway: what is listed has its value, what was made is as it was made. -/
structure St (W : World) (ops : Array Oper) (n iA : Nat) (d : Tmp) (ob : Obj) (a0 aF : Act) (listed : Array Bool) (a : Act) (w : World) : Prop where
  lsize : listed.size = n + 1
  un : listed.getD n true = false
  closed : ∀ k o, ops[k]? = some o → listed.getD k false = true → ∀ e ∈ o.after, Region.binds .any e = true → listed.getD e.on false = true
  bel : Bel W w
  defers : a.defers = a0.defers
  size : a.tmps.size = a0.tmps.size
  got : ∀ k o t, k < n → k ≠ iA → ops[k]? = some o → listed.getD k false = true → o.dst = some t → a.tmps[t]? = aF.tmps[t]?
  free : ∀ t, (∀ k o, k < n → ops[k]? = some o → o.dst ≠ some t) → a.tmps[t]? = a0.tmps[t]?
  made : iA < n → listed.getD iA false = true → ∃ b, W.heap.size ≤ b ∧ a.tmps[d]? = some (.pointer (some ⟨b, 0, none⟩)) ∧ w.heap[b]? = some ob

theorem getD_cases {listed : Array Bool} {i k : Nat} (h : (listed.setIfInBounds i true).getD k false = true) : k = i ∨ listed.getD k false = true := by
  by_cases e : i = k
  · exact .inl e.symm
  · rw [getD_set_ne false e] at h; exact .inr h

theorem count_set {listed : Array Bool} {i : Nat} (h : listed.getD i true = false) : (listed.setIfInBounds i true).toList.count false + 1 = listed.toList.count false := by
  have hi : i < listed.size := by
    rcases Nat.lt_or_ge i listed.size with h' | h'
    · exact h'
    · simp [Array.getElem?_eq_none h'] at h
  have hv : listed.toList[i]'(by simpa using hi) = false := by simpa [hi] using h
  have hpos : 0 < listed.toList.count false := List.count_pos_iff.2 (hv ▸ List.getElem_mem _)
  have e := List.count_set (a := true) (b := false) (l := listed.toList) (i := i) (by simpa using hi)
  rw [hv] at e
  rw [Array.toList_setIfInBounds, e]
  rw [if_pos (show (false == false) = true from rfl), if_neg (show ¬ (true == false) = true from Bool.false_ne_true)]
  omega

theorem run {Q : Exit → Act → World → Prop} {W : World} {n iA : Nat} {d : Tmp} {ob : Obj} {a0 aF : Act} (F : Flow ops n iA)
    (hA : iA < n → ∀ oA, ops[iA]? = some oA → oA.dst = some d ∧ ∀ ρ w, (execOp ρ oA).run P w = .ok (.value (.pointer (some ⟨w.heap.size, 0, none⟩))) (w.alloc ob))
    (hsz : ∀ k o t, ops[k]? = some o → k < n → o.dst = some t → t < a0.tmps.size)
    (hlex : ∀ w, Bel W w → wpQuiet P ops (Bel w) (fun x => x = aF) ((ops.toList.take n).eraseIdx iA) a0)
    (hfin : ∀ b w', Bel W w' → (iA < n → W.heap.size ≤ b ∧ w'.heap[b]? = some ob) → ∀ oS, ops[n]? = some oS →
      oS.wp P (if iA < n then aF.put (some d) (.pointer (some ⟨b, 0, none⟩)) else aF) w' (fun a'' w'' => Q .normal a'' w'') Q ∨
        (oS.asks P (if iA < n then aF.put (some d) (.pointer (some ⟨b, 0, none⟩)) else aF) w' ∧ LetsOut Q)) :
    ∀ (fuel : Nat) (listed : Array Bool) (a : Act) (w : World), St W ops n iA d ob a0 aF listed a w → listed.toList.count false ≤ fuel → wpAny P .any ops Q fuel listed a w := by
  have hget : ∀ k, k < n + 1 → ∃ o, ops[k]? = some o := fun k hk => ⟨ops[k]'(by rw [F.size]; exact hk), by simp [F.size, hk]⟩
  have hL : ∀ k o, k < n → ops[k]? = some o → (ops.toList.take n)[k]? = some o := fun k o hk ho => by
    rw [List.getElem?_take, if_pos hk]; simpa using ho
  have hL' : ∀ (k : Nat) o, (ops.toList.take n)[k]? = some o → k < n ∧ ops[k]? = some o := fun k o ho => by
    rw [List.getElem?_take] at ho
    by_cases hk : k < n
    · rw [if_pos hk] at ho; exact ⟨hk, by simpa using ho⟩
    · rw [if_neg hk] at ho; cases ho
  intro fuel
  induction fuel with
  | zero =>
    intro listed a w h hc
    have hn : n < listed.size := by rw [h.lsize]; omega
    have hun := h.un
    have : false ∈ listed.toList := by
      have hv : listed.toList[n]'(by simpa using hn) = false := by simpa [hn] using hun
      exact hv ▸ List.getElem_mem _
    have := List.count_pos_iff.2 this
    omega
  | succ fuel ih =>
    intro listed a w h hc
    have unl : ∀ j, j ∈ Region.ready .any ops listed → (listed.setIfInBounds j true).toList.count false ≤ fuel := fun j hj => by
      have := count_set (mem_ready.1 hj).1
      omega
    refine ⟨fun h0 => ?_, fun i hi => ?_⟩
    · -- none ready though the last is not listed: cannot be
      exfalso
      have all : ∀ k, k < n + 1 → listed.getD k false = true := by
        intro k
        induction k using Nat.strongRecOn with
        | _ k ihk =>
          intro hk
          obtain ⟨o, ho⟩ := hget k hk
          rcases Bool.eq_false_or_eq_true (listed.getD k true) with ht | hf
          · have hlt : k < listed.size := by rw [h.lsize]; exact hk
            simpa [hlt] using ht
          · exfalso
            have : k ∈ Region.ready .any ops listed := mem_ready.2 ⟨hf, o, ho, fun e he hb => ihk e.on (F.back k o ho e he hb) (by have := F.back k o ho e he hb; omega)⟩
            rw [h0] at this
            cases this
      have h1 := all n (by omega)
      have h2 := h.un
      have hlt : n < listed.size := by rw [h.lsize]; omega
      simp [hlt] at h1 h2
      rw [h1] at h2
      cases h2
    · obtain ⟨hiun, o, ho, hall⟩ := mem_ready.1 hi
      have hin : i < n + 1 := by rw [← F.size]; exact (Array.getElem?_eq_some_iff.1 ho).1
      have hne_of : ∀ k, listed.getD k false = true → k ≠ i := fun k hk e => by
        subst e
        have hlt : k < listed.size := by rw [h.lsize]; exact hin
        simp [hlt] at hk hiun
        rw [hk] at hiun
        cases hiun
      by_cases hiS : i = n
      · -- the last
        subst hiS
        have all : ∀ m k, k + m = i → k < i → listed.getD k false = true := by
          intro m
          induction m using Nat.strongRecOn with
          | _ m ihm =>
            intro k hkm hk
            obtain ⟨m', o', hlt, hle, ho', e, he, hb, hon⟩ := F.next k hk
            rw [← hon]
            by_cases hm' : m' = i
            · subst hm'
              rw [ho] at ho'
              cases ho'
              exact hall e he hb
            · exact h.closed m' o' ho' (ihm (i - m') (by omega) m' (by omega) (by omega)) e he hb
        have all : ∀ k, k < i → listed.getD k false = true := fun k hk => all (i - k) k (by omega) hk
        have hLk := like_of _ _ (hlex w h.bel)
        have hin' : ∀ x ∈ (ops.toList.take i).eraseIdx iA, ∃ j, j ≠ iA ∧ j < i ∧ ops[j]? = some x := fun x hx => by
          obtain ⟨j, hj, hx'⟩ := List.mem_eraseIdx_iff_getElem?.1 hx
          exact ⟨j, hj, hL' j x hx'⟩
        have hdone : ∀ a'' w'', Q .normal a'' w'' → wpAny P .any ops Q fuel (listed.setIfInBounds i true) a'' w'' := fun a'' w'' hq => by
          refine wpAny_done ?_ hq fuel
          refine List.eq_nil_iff_forall_not_mem.2 fun j hj => ?_
          obtain ⟨hjun, oj, hoj, _⟩ := mem_ready.1 hj
          have hjn : j < i + 1 := by rw [← F.size]; exact (Array.getElem?_eq_some_iff.1 hoj).1
          have hlt : j < listed.size := by rw [h.lsize]; exact hjn
          by_cases hji : i = j
          · subst hji; simp [hlt] at hjun
          · rw [getD_set_ne true hji] at hjun
            have := all j (by omega)
            simp [hlt] at this hjun
            rw [this] at hjun
            cases hjun
        have fin : ∀ b, (iA < i → W.heap.size ≤ b ∧ w.heap[b]? = some ob) → (a = if iA < i then aF.put (some d) (.pointer (some ⟨b, 0, none⟩)) else aF) →
            wpOp P ops Q i (wpAny P .any ops Q fuel (listed.setIfInBounds i true)) a w := fun b hb ha => by
          have hw := hfin b w h.bel hb o ho
          rw [← ha] at hw
          unfold wpOp
          simp only [ho]
          have hg : Region.wanted o (yielded ops a.tmps) = true := by simp [Region.wanted, F.last o ho]
          rw [if_pos hg]
          exact hw.imp (Oper.wp_mono hdone) id
        by_cases hiA : iA < i
        · obtain ⟨b, hb1, hb2, hb3⟩ := h.made hiA (all iA hiA)
          obtain ⟨oA, hoA⟩ := hget iA (by omega)
          obtain ⟨hdA, _⟩ := hA hiA oA hoA
          refine fin b (fun _ => ⟨hb1, hb3⟩) ?_
          rw [if_pos hiA]
          have hts : a.tmps = (aF.put (some d) (.pointer (some ⟨b, 0, none⟩))).tmps := by
            refine Array.ext_getElem? fun t => ?_
            by_cases ht : d = t
            · subst ht
              rw [hb2, put_eq _ _ _ (by rw [hLk.size]; exact hsz iA oA d hoA hiA hdA)]
            · rw [put_ne _ _ _ _ (fun e => ht (Option.some.inj e))]
              by_cases hex : ∃ k o', k < i ∧ ops[k]? = some o' ∧ o'.dst = some t
              · obtain ⟨k, o', hk, ho', ht'⟩ := hex
                refine h.got k o' t hk (fun e => ?_) ho' (all k hk) ht'
                subst e
                rw [hoA] at ho'
                cases ho'
                rw [hdA] at ht'
                exact ht (Option.some.inj ht')
              · have hfree : ∀ k o', k < i → ops[k]? = some o' → o'.dst ≠ some t := fun k o' hk ho' ht' => hex ⟨k, o', hk, ho', ht'⟩
                rw [h.free t hfree]
                refine (hLk.slot t fun x hx => ?_).symm
                obtain ⟨j, _, hj, hx'⟩ := hin' x hx
                exact hfree j x hj hx'
          have hds : a.defers = (aF.put (some d) (.pointer (some ⟨b, 0, none⟩))).defers := by rw [put_defers, hLk.defers, h.defers]
          cases a
          rw [Act.mk.injEq]
          exact ⟨hts, hds⟩
        · refine fin 0 (fun e => absurd e hiA) ?_
          rw [if_neg hiA]
          have hts : a.tmps = aF.tmps := by
            refine Array.ext_getElem? fun t => ?_
            by_cases hex : ∃ k o', k < i ∧ ops[k]? = some o' ∧ o'.dst = some t
            · obtain ⟨k, o', hk, ho', ht'⟩ := hex
              exact h.got k o' t hk (by omega) ho' (all k hk) ht'
            · have hfree : ∀ k o', k < i → ops[k]? = some o' → o'.dst ≠ some t := fun k o' hk ho' ht' => hex ⟨k, o', hk, ho', ht'⟩
              rw [h.free t hfree]
              refine (hLk.slot t fun x hx => ?_).symm
              obtain ⟨j, _, hj, hx'⟩ := hin' x hx
              exact hfree j x hj hx'
          have hds : a.defers = aF.defers := by rw [hLk.defers, h.defers]
          cases a
          cases aF
          rw [Act.mk.injEq]
          exact ⟨hts, hds⟩
      · have hin' : i < n := by omega
        have hnS : listed.getD n true = false := h.un
        have hun' : (listed.setIfInBounds i true).getD n true = false := by rw [getD_set_ne true hiS]; exact hnS
        have hclosed : ∀ k o', ops[k]? = some o' → (listed.setIfInBounds i true).getD k false = true → ∀ e ∈ o'.after, Region.binds .any e = true → (listed.setIfInBounds i true).getD e.on false = true :=
          fun k o' ho' hk e he hb => by
            rcases getD_cases hk with rfl | hk
            · rw [ho] at ho'; cases ho'; exact getD_set_true (hall e he hb)
            · exact getD_set_true (h.closed k o' ho' hk e he hb)
        by_cases hiA : i = iA
        · -- the new variable
          subst hiA
          obtain ⟨hd, hrun⟩ := hA hin' o ho
          unfold wpOp
          simp only [ho]
          have hg : Region.wanted o (yielded ops a.tmps) = true := by simp [Region.wanted, F.alone hin' o ho]
          rw [if_pos hg]
          refine .inl ?_
          unfold Oper.wp
          rw [hrun, Oper.upon_value, hd]
          have hds : d < a.tmps.size := by rw [h.size]; exact hsz i o d ho hin' hd
          refine ih _ _ _ ⟨by simpa using h.lsize, hun', hclosed, ?_, by rw [put_defers]; exact h.defers, by rw [put_size]; exact h.size, ?_, ?_, ?_⟩ (unl i hi)
          · exact Below.alloc h.bel h.bel.size ob
          · intro k o' t hk hne ho' hkl ht
            rcases getD_cases hkl with rfl | hkl
            · exact absurd rfl hne
            · have hdt : d ≠ t := fun e => hne ((F.dsts i o hin' ho k o' t hk ho' ht (e ▸ hd)))
              rw [put_ne _ _ _ _ (fun e => hdt (Option.some.inj e))]
              exact h.got k o' t hk hne ho' hkl ht
          · intro t ht
            rw [put_ne _ _ _ _ (fun e => ht i o hin' ho (hd.trans e))]
            exact h.free t ht
          · intro _ _
            exact ⟨w.heap.size, h.bel.size, put_eq _ _ _ hds, by show (w.heap.push ob)[w.heap.size]? = some ob; simp⟩
        · obtain ⟨p, q, hpq, hp, hq⟩ := split_at _ i iA o (hL i o hin' ho) hiA
          have hx := hlex w h.bel
          rw [hpq] at hx
          obtain ⟨a1, v, hy, hlp, hlq⟩ := chain p a0 hx
          have same : ∀ t ∈ o.looksAt ops, a.tmps[t]? = a1.tmps[t]? := fun t ht => by
            by_cases hex : ∃ k o', k < n ∧ ops[k]? = some o' ∧ o'.dst = some t
            · obtain ⟨k, o', hk, ho', ht'⟩ := hex
              obtain ⟨hkA, e, he, hb, hon⟩ := F.looks i o hin' ho k o' t hk ho' ht' ht
              have hki : k < i := hon ▸ F.back i o ho e he hb
              rw [h.got k o' t hk hkA ho' (hon ▸ hall e he hb) ht']
              have hnd : o.dst ≠ some t := fun e => by
                have := F.dsts i o hin' ho k o' t hk ho' ht' e
                omega
              refine (hlq.slot t fun x hx => ?_).trans (put_ne _ _ _ _ hnd)
              obtain ⟨j, hj, _, hxj⟩ := hq x hx
              obtain ⟨hjn, hxj⟩ := hL' j x hxj
              exact fun e => by
                have := F.dsts j x hjn hxj k o' t hk ho' ht' e
                omega
            · have hfree : ∀ k o', k < n → ops[k]? = some o' → o'.dst ≠ some t := fun k o' hk ho' ht' => hex ⟨k, o', hk, ho', ht'⟩
              rw [h.free t hfree]
              refine (hlp.slot t fun x hx => ?_).symm
              obtain ⟨j, hj, _, hxj⟩ := hp x hx
              obtain ⟨hjn, hxj⟩ := hL' j x hxj
              exact hfree j x hjn hxj
          have hev : ∀ x ∈ o.op.operands, a.eval x = a1.eval x := fun x hx => by
            cases x with
            | tmp t =>
              have := same t (List.mem_append_left _ (List.mem_filterMap.2 ⟨.tmp t, by simpa using hx, rfl⟩))
              simp only [Act.eval, Array.getD_eq_getD_getElem?, this]
            | _ => rfl
          have hex : execOp a.eval o = execOp a1.eval o := execOp_congr o (Region.noSelect_spec F.nosel i o · · ho) hev
          have hwt : Region.wanted o (yielded ops a.tmps) = Region.wanted o (yielded ops a1.tmps) := by
            unfold Region.wanted
            cases hg : o.guard with
            | none => rfl
            | some gw =>
              obtain ⟨g, want⟩ := gw
              have : yielded ops a.tmps g = yielded ops a1.tmps g := by
                unfold yielded
                cases ht : (ops[g]?).bind (·.dst) with
                | none => rfl
                | some t =>
                  have := same t (List.mem_append_right _ (by simp [hg, ht]))
                  simp only [Option.bind_some, this]
              simp only [this]
          have hya := hy.of_same hex hwt
          refine wpOp_of_qOp (C := Bel w) (K := fun a' => a' = a.put o.dst v) (Below.refl _ _) (fun a' w' hbw ha' => ?_) (hya.qOp ho rfl)
          subst ha'
          refine ih _ _ _ ⟨by simpa using h.lsize, hun', hclosed, h.bel.step hbw, by rw [put_defers]; exact h.defers, by rw [put_size]; exact h.size, ?_, ?_, ?_⟩ (unl i hi)
          · intro k o' t hk hne ho' hkl ht
            rcases getD_cases hkl with rfl | hkl
            · rw [ho] at ho'
              cases ho'
              have ht0 := hsz k o t ho hin' ht
              have h2 : aF.tmps[t]? = (a1.put o.dst v).tmps[t]? := hlq.slot t fun x hx => by
                obtain ⟨j, hj, _, hxj⟩ := hq x hx
                obtain ⟨hjn, hxj⟩ := hL' j x hxj
                exact fun e => by
                  have := F.dsts k o hin' ho j x t hjn hxj e ht
                  omega
              rw [h2, ht, put_eq _ _ _ (by rw [h.size]; exact ht0), put_eq _ _ _ (by rw [hlp.size]; exact ht0)]
            · have hdt : o.dst ≠ some t := fun e => hne_of k hkl (F.dsts i o hin' ho k o' t hk ho' ht e)
              rw [put_ne _ _ _ _ hdt]
              exact h.got k o' t hk hne ho' hkl ht
          · intro t ht
            rw [put_ne _ _ _ _ (ht i o hin' ho)]
            exact h.free t ht
          · intro hiA' hl
            rcases getD_cases hl with e | hl
            · exact absurd e.symm hiA
            · obtain ⟨b, hb1, hb2, hb3⟩ := h.made hiA' hl
              obtain ⟨oA, hoA⟩ := hget iA (by omega)
              obtain ⟨hdA, _⟩ := hA hiA' oA hoA
              have hdt : o.dst ≠ some d := fun e => hiA (F.dsts i o hin' ho iA oA d hiA' hoA hdA e).symm
              refine ⟨b, hb1, by rw [put_ne _ _ _ _ hdt]; exact hb2, ?_⟩
              have hlt : b < w.heap.size := by
                rcases Nat.lt_or_ge b w.heap.size with h' | h'
                · exact h'
                · rw [Array.getElem?_eq_none h'] at hb3; cases hb3
              rw [hbw.block b hlt]
              exact hb3

def sizeB (l : List Oper) (n m : Nat) : Bool := (l.take n).all fun o => match o.dst with | none => true | some t => decide (t < m)
theorem size_of {l : List Oper} {n m : Nat} (h : sizeB l n m = true) (k : Nat) (o : Oper) (t : Tmp) (ho : l.toArray[k]? = some o) (hk : k < n) (ht : o.dst = some t) : t < m := by
  have hm : o ∈ l.take n := List.mem_iff_getElem?.2 ⟨k, by rw [List.getElem?_take, if_pos hk]; simpa using ho⟩
  have := List.all_eq_true.1 h o hm
  simpa [ht] using this

theorem start_st (W : World) (l : List Oper) (n iA : Nat) (d : Tmp) (ob : Obj) (a0 aF : Act) (h : l.toArray.size = n + 1) :
    St W l.toArray n iA d ob a0 aF (Array.replicate l.toArray.size false) a0 { W with drawn := W.drawn + 1 } := by
  have hf : ∀ k, ¬ (Array.replicate l.toArray.size false).getD k false = true := fun k hk => by
    rw [Array.getD_eq_getD_getElem?, Array.getElem?_replicate] at hk
    by_cases hkn : k < l.toArray.size
    · rw [if_pos hkn] at hk; cases hk
    · rw [if_neg hkn] at hk; cases hk
  refine ⟨by simpa using h, ?_, fun k o _ hk => absurd hk (hf k), ⟨rfl, rfl, rfl, Nat.le_refl _, fun _ _ => rfl⟩, rfl, rfl, fun k o t _ _ _ hk => absurd hk (hf k), fun _ _ => rfl, fun _ hk => absurd hk (hf _)⟩
  have hn : n < (Array.replicate l.toArray.size false).size := by simpa using (by omega : n < l.toArray.size)
  have hn' : n < l.length := by simpa using hn
  simp [hn']

theorem ofList {Q : Exit → Act → World → Prop} {l : List Oper} {n : Nat} {a : Act} {w : World} (F : ∀ o, l.toArray[n]? = some o → o.guard = none) (hsz : l.toArray.size = n + 1) (h : wpList P l.toArray Q (l.drop n) a w) (oS : Oper) (ho : l.toArray[n]? = some oS) :
    oS.wp P a w (fun a'' w'' => Q .normal a'' w'') Q ∨ (oS.asks P a w ∧ LetsOut Q) := by
  have ho' : l[n]? = some oS := by simpa using ho
  have hn : n < l.length := (List.getElem?_eq_some_iff.1 ho').1
  have hd : l.drop n = [oS] := by
    have e : l.length = n + 1 := by simpa using hsz
    rw [List.drop_eq_getElem_cons hn, List.drop_eq_nil_of_le (by omega), (List.getElem?_eq_some_iff.1 ho').2]
  rw [hd] at h
  unfold wpList at h
  rw [if_pos (by simp [Region.wanted, F oS ho])] at h
  exact h

/-- A statement that draws its order and ends in one operation that waits for all others. -/
theorem tail {id : Nat} {Q : Exit → Act → World → Prop} {l : List Oper} {a : Act} {W : World} (S : World → Prop) (n : Nat) (aF : Act) (hm : P.follows .mixedOrders = true) (hB : flowB l.toArray n (n + 1) = true)
    (hz : sizeB l n a.tmps.size = true) (hS : ∀ w', Bel W w' → S w')
    (h : ∀ W1, (∀ w', Bel W1 w' → S w') → wpQuiet P l.toArray (Bel W1) (fun x => x = aF) (l.take n) a)
    (hfin : ∀ W0, Is W0 W → ∀ w', Bel W0 w' → S w' → wpList P l.toArray Q (l.drop n) aF w') : (Code.region id l.toArray true).wp P Q a W := by
  have F := flow_of hB
  refine wp_region_any hm (run (W := W) (n := n) (iA := n + 1) (d := 0) (ob := .cells #[] 0) (a0 := a) (aF := aF) F (fun hh => absurd hh (by omega)) (fun k o t ho hk ht => size_of hz k o t ho hk ht)
    (fun w hw => ?_) (fun b w' hw _ oS ho => ?_) _ _ _ _ (start_st W l n _ 0 _ a aF F.size) (by simp))
  · have := h w fun w' hw' => hS w' (hw.trans (hw'.mono hw.size))
    rw [List.eraseIdx_of_length_le (by simp; omega)]
    simpa using this
  · rw [if_neg (by omega)]
    exact ofList F.last F.size (hfin W ⟨rfl⟩ w' hw (hS w' hw)) oS ho

/-- The same, where one of the other operations makes a new variable. -/
theorem tailA {id : Nat} {Q : Exit → Act → World → Prop} {l : List Oper} {a : Act} {W : World} (S : World → Prop) (n iA : Nat) (d : Tmp) (ob : Obj) (aF : Act) (hm : P.follows .mixedOrders = true) (hB : flowB l.toArray n iA = true) (hiA : iA < n)
    (hA : ∀ oA, l[iA]? = some oA → oA.dst = some d ∧ ∀ ρ w, (execOp ρ oA).run P w = .ok (.value (.pointer (some ⟨w.heap.size, 0, none⟩))) (w.alloc ob))
    (hz : sizeB l n a.tmps.size = true) (hS : ∀ w', Bel W w' → S w')
    (h : ∀ W1, (∀ w', Bel W1 w' → S w') → wpQuiet P l.toArray (Bel W1) (fun x => x = aF) ((l.take n).eraseIdx iA) a)
    (hfin : ∀ W0, Is W0 W → ∀ b w', Bel W0 w' → S w' → W0.heap.size ≤ b → w'.heap[b]? = some ob → wpList P l.toArray Q (l.drop n) (aF.put (some d) (.pointer (some ⟨b, 0, none⟩))) w') : (Code.region id l.toArray true).wp P Q a W := by
  have F := flow_of hB
  refine wp_region_any hm (run (W := W) (n := n) (iA := iA) (d := d) (ob := ob) (a0 := a) (aF := aF) F (fun _ oA ho => hA oA (by simpa using ho)) (fun k o t ho hk ht => size_of hz k o t ho hk ht)
    (fun w hw => by simpa using h w fun w' hw' => hS w' (hw.trans (hw'.mono hw.size))) (fun b w' hw hb oS ho => ?_) _ _ _ _ (start_st W l n _ d _ a aF F.size) (by simp))
  rw [if_pos hiA]
  exact ofList F.last F.size (hfin W ⟨rfl⟩ b w' hw (hS w' hw) (hb hiA).1 (hb hiA).2) oS ho

/-- What a cell of a block holds. -/
theorem cell_of {w : World} {b : Nat} {vs : Array Value} {T : TypeId} (h : w.heap[b]? = some (.cells vs T)) (k : Nat) : w.cell? ⟨b, k, none⟩ = vs[k]? := by
  simp [World.cell?, h]
end
end Go.Proofs.Ytnmcnailgdcmoaa.Quiet
