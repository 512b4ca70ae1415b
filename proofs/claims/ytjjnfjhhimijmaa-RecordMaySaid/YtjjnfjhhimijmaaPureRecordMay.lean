/- The plain law of RecordMay: what survives of a road, and of tracks, has bytes, and begins again with just the same faults. -/
import Derived.Test.YtjjnfjhhimijmaaAx19
import Derived.Test.YtjjnfjhhimijmaaPureRestart
import Derived.Test.YtjjnfjhhimijmaaPureRecord
namespace Go.Proofs.Ytjjnfjhhimijmaa.Pure
open Go.RowKit Go.Proofs.Ytjjnfjhhimijmaa.A Go.Proofs.YtjjnfjhhimijmaaW.PrintWords Go.Proofs.YtjjnfjhhimijmaaW.PrintLast Go.Proofs.YtjjnfjhhimijmaaW.PrintMore
set_option linter.unusedVariables false
set_option linter.unusedSimpArgs false
theorem smallM : crossbucklaw25_small.f = some true := rfl
theorem bit_of (N P n : Nat) (hP : 0 < P) (h : N % (2 * P) = n) : N / P % 2 = n / P := by
  rw [Nat.mul_comm, Nat.mod_mul] at h
  rw [← h, Nat.add_mul_div_left _ _ hP, Nat.div_eq_of_lt (Nat.mod_lt _ hP), Nat.zero_add]
theorem mask_bits (g : S39 → Bool) (l : List S39) (m : Nat) (h8 : m ≤ 8) : ∀ (d i n s : Nat), i + d = m → n < 2 ^ i → d < s →
    ∃ N : Nat, maskL g l (m : Int) s (i : Int) (n : Int) = (N : Int) ∧ N < 2 ^ m ∧ N % 2 ^ i = n ∧ ∀ q, i ≤ q → q < m → (N / 2 ^ q % 2 = 1 ↔ g (rd_T39 l (q : Int)) = true)
  | 0, i, n, s, hd, hn, hs => by
    obtain ⟨s, rfl⟩ : ∃ t, s = t + 1 := ⟨s - 1, by omega⟩
    obtain rfl : i = m := by omega
    refine ⟨n, ?_, hn, Nat.mod_eq_of_lt hn, fun q h1 h2 => absurd h2 (by omega)⟩
    rw [maskL, if_neg (by omega)]
  | d + 1, i, n, s, hd, hn, hs => by
    obtain ⟨s, rfl⟩ : ∃ t, s = t + 1 := ⟨s - 1, by omega⟩
    have hi : i < m := by omega
    have hP : 0 < 2 ^ i := Nat.two_pow_pos i
    have hs2 : (2 : Nat) ^ (i + 1) = 2 * 2 ^ i := by rw [Nat.pow_succ, Nat.mul_comm]
    have e : maskL g l (m : Int) (s + 1) (i : Int) (n : Int) = maskL g l (m : Int) s ((i + 1 : Nat) : Int) ((if g (rd_T39 l (i : Int)) = true then n + 2 ^ i else n : Nat) : Int) := by
      rw [maskL, if_pos (by omega), show ((i : Int)).toNat = i by simp, or_add i n (by omega) hn]
      by_cases hg : g (rd_T39 l (i : Int)) = true
      · rw [if_pos hg, if_pos hg]; rfl
      · rw [if_neg hg, if_neg hg]; rfl
    have hn' : (if g (rd_T39 l (i : Int)) = true then n + 2 ^ i else n) < 2 ^ (i + 1) := by
      rw [hs2]
      generalize 2 ^ i = P at *
      split <;> omega
    obtain ⟨N, h1, h2, h3, h4⟩ := mask_bits g l m h8 d (i + 1) _ s (by omega) hn' (by omega)
    refine ⟨N, by rw [e]; exact h1, h2, ?_, fun q hq hqm => ?_⟩
    · have : N % 2 ^ i = N % 2 ^ (i + 1) % 2 ^ i := by rw [hs2, Nat.mul_comm, Nat.mod_mul_right_mod]
      rw [this, h3]
      split
      · rw [Nat.add_mod_right, Nat.mod_eq_of_lt hn]
      · exact Nat.mod_eq_of_lt hn
    · by_cases hqi : q = i
      · subst hqi
        rw [bit_of N (2 ^ q) (if g (rd_T39 l (q : Int)) = true then n + 2 ^ q else n) hP (by rw [← hs2]; exact h3)]
        by_cases hg : g (rd_T39 l (q : Int)) = true
        · rw [if_pos hg, Nat.add_div_right _ hP, Nat.div_eq_of_lt hn]
          simp [hg]
        · rw [if_neg hg, Nat.div_eq_of_lt hn]
          simp [hg]
      · exact h4 q (by omega) hqm
theorem mask_all (g : S39 → Bool) (l : List S39) (h8 : (l.length : Int) ≤ 8) :
    ∃ N : Nat, maskV g l = (N : Int) ∧ N < 256 ∧ ∀ q, q < l.length → bitAt (N : Int) q = g (rd_T39 l (q : Int)) := by
  obtain ⟨N, h1, h2, _, h4⟩ := mask_bits g l l.length (by omega) l.length 0 0 9 (by omega) (by decide) (by omega)
  refine ⟨N, ?_, Nat.lt_of_lt_of_le h2 (Nat.le_trans (Nat.pow_le_pow_right (by decide) (show l.length ≤ 8 by omega)) (by decide)), fun q hq => ?_⟩
  · unfold maskV
    have : mn (l.length : Int) 8 = (l.length : Int) := by unfold mn; split <;> omega
    rw [this]
    exact h1
  · have hb := h4 q (by omega) hq
    unfold bitAt shr
    rw [Arith.and1, show ((q : Int)).toNat = q by simp, Nat.min_eq_left (show q ≤ IntKind.i64.bits by show q ≤ 64; omega)]
    have e : (N : Int) / (2 ^ q : Int) % 2 = ((N / 2 ^ q % 2 : Nat) : Int) := by push_cast; rfl
    rw [e]
    cases hg : g (rd_T39 l (q : Int))
    · have : N / 2 ^ q % 2 ≠ 1 := fun h => by have := hb.1 h; rw [hg] at this; cases this
      have h0 : N / 2 ^ q % 2 = 0 := by omega
      rw [h0]; rfl
    · rw [hb.2 hg]; rfl
theorem rd_rowF (wr ju : Int) (n q : Nat) (h : q < n) : rd_T39 (rowF wr ju n) (q : Int) = trackR wr ju q := by
  unfold rd_T39 rowF
  rw [Int.toNat_natCast, List.getD_eq_getElem?_getD, List.getElem?_map, List.getElem?_range h]
  rfl
theorem may_loop (l : List S39) (h8 : (l.length : Int) ≤ 8) (W J : Int) (hW : ∀ q, q < l.length → bitAt W q = (rd_T39 l (q : Int)).f0.f3) (hJ : ∀ q, q < l.length → bitAt J q = (rd_T39 l (q : Int)).f1.f2) (a b c : Int) :
    ∀ (d i : Nat), i + d = l.length → Ev (fun k => crossbucklaw25_RecordMay.l0 k l true true (rowF W J l.length) (i : Int) a b c a b c) true := by
  intro d
  induction d with
  | zero =>
    intro i hi
    refine Ev.step (f := fun _ => some true) (fun k => ?_) (Ev.now _)
    simp only [crossbucklaw25_RecordMay.l0]
    rw [rowF_len, if_neg (by omega)]
    simp
  | succ d ih =>
    intro i hi
    have hlt : i < l.length := by omega
    have e0 : wrap64 ((i : Int) + 1) = ((i + 1 : Nat) : Int) := by unfold wrap64; omega
    refine Ev.step (f := fun k => crossbucklaw25_RecordMay.l0 k l true true (rowF W J l.length) ((i + 1 : Nat) : Int) a b c a b c) (fun k => ?_) (ih (i + 1) (by omega))
    simp only [crossbucklaw25_RecordMay.l0]
    rw [rowF_len, if_pos (by omega), if_pos (by omega), if_pos (by omega), rd_rowF W J _ i hlt]
    show (if (bitAt W i != (rd_T39 l (i : Int)).f0.f3) = true then some false else if (bitAt J i != (rd_T39 l (i : Int)).f1.f2) = true then some false else _) = _
    rw [hW i hlt, hJ i hlt, if_neg (by simp), if_neg (by simp), e0]
theorem RecordMay : ∀ (a0 : Int) (l1 : List S39), (Lit.int .i64 a0).wf = true → (∀ x ∈ l1, (Lit.int .i64 x.f0.f1).wf = true ∧ (Lit.int .i64 x.f0.f2).wf = true ∧ (Lit.int .i64 x.f1.f0).wf = true ∧ (Lit.int .i64 x.f1.f1).wf = true ∧ (Lit.int .i64 x.f3).wf = true) → ∃ k, crossbucklaw25_RecordMay.f k a0 l1 = some true := by
  intro a l _ _
  refine Ev.rounds ?_
  have out : Ev (fun k => crossbucklaw25_RecordMay.j0 k a l true true) true :=
    Ev.step (f := fun _ => some true) (fun k => by simp only [crossbucklaw25_RecordMay.j0]; rw [if_pos (by first | trivial | rfl | simp)]) (Ev.now true)
  by_cases g1 : a < 0
  · refine Ev.congr (fun k => ?_) out
    unfold crossbucklaw25_RecordMay.f; rw [smallM, Option.bind_some, if_pos g1]
  by_cases g2 : a > 7
  · refine Ev.congr (fun k => ?_) out
    unfold crossbucklaw25_RecordMay.f; rw [smallM, Option.bind_some, if_neg g1, if_pos g2]
  by_cases g3 : (l.length : Int) > 8
  · refine Ev.congr (fun k => ?_) out
    unfold crossbucklaw25_RecordMay.f; rw [smallM, Option.bind_some, if_neg g1, if_neg g2, decide_eq_true g3]
  refine Ev.congr (f := fun k => crossbucklaw25_RecordMay.j0 k a l true false) (fun k => ?_) ?_
  · unfold crossbucklaw25_RecordMay.f; rw [smallM, Option.bind_some, if_neg g1, if_neg g2, decide_eq_false g3]
  obtain ⟨W, hW, hW2, hW3⟩ := mask_all (fun x => x.f0.f3) l (by omega)
  obtain ⟨J, hJ, hJ2, hJ3⟩ := mask_all (fun x => x.f1.f2) l (by omega)
  have hpr : printV a (W : Int) (J : Int) = [a, (W : Int), (J : Int)] := by unfold printV; rw [if_pos (by omega)]
  have hpa : record_Parse.f [a, (W : Int), (J : Int)] = some (a, (W : Int), (J : Int), true) := by
    rw [parse_eq, if_pos ⟨rfl, by show ¬ a > 7; omega⟩]
    show some (wrap64 a, wrap64 (W : Int), wrap64 (J : Int), true) = _
    have e1 : wrap64 a = a := by unfold wrap64; omega
    have e2 : wrap64 (W : Int) = (W : Int) := by unfold wrap64; omega
    have e3 : wrap64 (J : Int) = (J : Int) := by unfold wrap64; omega
    rw [e1, e2, e3]
  have hn : rsN (l.length : Int) = l.length := by unfold rsN mx mn; split <;> split <;> omega
  have hlen : ((rowF (W : Int) (J : Int) l.length).length : Int) = (l.length : Int) := by rw [rowF_len]
  have hr := restart_ev a (W : Int) (J : Int) true (l.length : Int)
  rw [hn, if_pos rfl, if_pos rfl, if_pos rfl] at hr
  refine Ev.step (f := fun k => (record_Print.f k a (W : Int) (J : Int)).bind fun t => (record_Parse.f t).bind fun b => (policy_Restart.f k b.1 b.2.1 b.2.2.1 b.2.2.2 (l.length : Int)).bind fun r => if (r.2.2.length : Int) = (l.length : Int) then crossbucklaw25_RecordMay.l0 k l true b.2.2.2 r.2.2 0 a (W : Int) (J : Int) b.1 b.2.1 b.2.2.1 else some false) (fun k => ?_) ?_
  · simp only [crossbucklaw25_RecordMay.j0]
    rw [if_neg (by decide), enter_eq a (by omega), Option.bind_some]
    unfold record_Of.f
    rw [hW, hJ]
    rfl
  refine Ev.bind (print_ev a (W : Int) (J : Int)) ?_
  simp only [hpr, hpa, Option.bind_some]
  refine Ev.bind hr ?_
  simp only [hlen, if_true]
  exact may_loop l (by omega) (W : Int) (J : Int) hW3 hJ3 a (W : Int) (J : Int) l.length 0 (by omega)
end Go.Proofs.Ytjjnfjhhimijmaa.Pure
