/- The plain law of PolicySafe. -/
import Derived.Test.YtnmcnailgdcmoaaAx27
import Derived.Test.YtnmcnailgdcmoaaPureSig
import Derived.OpenShut
namespace Go.Proofs.Ytnmcnailgdcmoaa.Pure
open Go.RowKit Go.Proofs.Ytnmcnailgdcmoaa.A Go.Proofs.YtnmcnailgdcmoaaW.PrintWords Go.Proofs.YtnmcnailgdcmoaaW.PrintLast Go.Proofs.YtnmcnailgdcmoaaW.PrintMore
set_option linter.unusedVariables false
set_option linter.unusedSimpArgs false
theorem ofInt_wrap (X : BitVec 64) : BitVec.ofInt 64 (IntKind.i64.wrap (X.toNat : Int)) = X := by
  apply BitVec.eq_of_toNat_eq
  rw [BitVec.toNat_ofInt, IntKind.wrap_i64]
  have h : X.toNat < 18446744073709551616 := X.isLt
  show (_ % (18446744073709551616 : Int)).toNat = _
  omega
theorem and_mod (r : Int) (L : Nat) (hL : L ≤ 62) : Go.bits .and .i64 (r % 2 ^ L) r = r % 2 ^ L := by
  rw [← Arith.i64_and L hL r]
  show IntKind.i64.wrap ((BitVec.ofInt 64 (IntKind.i64.wrap ((BitVec.ofInt 64 r &&& BitVec.ofInt 64 ((2 : Int) ^ L - 1)).toNat : Int)) &&& BitVec.ofInt 64 r).toNat : Int) = IntKind.i64.wrap ((BitVec.ofInt 64 r &&& BitVec.ofInt 64 ((2 : Int) ^ L - 1)).toNat : Int)
  rw [ofInt_wrap, BitVec.and_assoc, BitVec.and_comm (BitVec.ofInt 64 ((2 : Int) ^ L - 1)), ← BitVec.and_assoc, BitVec.and_self]
theorem shr_mod (r : Int) (L : Nat) (hL : L ≤ 62) (h0 : 0 ≤ r % 2 ^ L) : shr .i64 (r % 2 ^ L) (L : Int) = 0 := by
  unfold shr
  rw [show ((L : Int)).toNat = L by simp, Nat.min_eq_left (show L ≤ IntKind.i64.bits by show L ≤ 64; omega)]
  have hp : (0 : Int) < 2 ^ L := by have := Nat.two_pow_pos L; exact_mod_cast this
  exact Int.ediv_eq_zero_of_lt h0 (Int.emod_lt_of_pos _ hp)
theorem lights5 (s : Int) : ∃ a b c, phase_Lights.f 5 s = some (a, b, c, true, true) := ⟨_, _, _, rfl⟩
theorem safe_loop (l : List S31) (h8 : (l.length : Int) ≤ 8) (hf : (l.any fun x => x.f4) = false) (r : Int) (hr : 0 ≤ r) (n : Int) (hn : n = r % 2 ^ l.length) (hne : n ≠ 0) (a0 a1 a2 a3 a4 a6 a9 : Bool) (l0 : List S34) (s : Int) :
    ∀ (d i : Nat), i + d = l.length → Ev (fun k => crossbucklaw23_PolicySafe.l0 k l true true n (i : Int) a0 a1 a2 a3 a4 true a6 0 true a9 r l0 5 s) true := by
  have hp : (0 : Int) < 2 ^ l.length := by have := Nat.two_pow_pos l.length; exact_mod_cast this
  have hn0 : 0 ≤ n := by rw [hn]; exact Int.emod_nonneg _ (by omega)
  intro d
  induction d with
  | zero =>
    intro i hi
    refine Ev.step (f := fun _ => some true) (fun k => ?_) (Ev.now _)
    simp only [crossbucklaw23_PolicySafe.l0]
    obtain ⟨x, y, z, hl⟩ := lights5 s
    have e64 : IntKind.u64.wrap (l.length : Int) = (l.length : Int) := by rw [IntKind.wrap_u64]; omega
    rw [if_neg (by omega), if_pos (by first | trivial | rfl), if_pos (by omega), e64]
    rw [if_pos (by rw [hn]; exact and_mod r l.length (by omega)), if_pos (by omega), if_pos (by rw [hn]; exact shr_mod r l.length (by omega) (by rw [← hn]; exact hn0))]
    rw [if_pos (by first | trivial | rfl), if_pos (by first | trivial | rfl), if_pos (by first | trivial | rfl), if_pos (by first | trivial | rfl), if_pos (by first | trivial | rfl), hl]
    rfl
  | succ d ih =>
    intro i hi
    have hlt : i < l.length := by omega
    have e0 : wrap64 ((i : Int) + 1) = ((i + 1 : Nat) : Int) := by unfold wrap64; omega
    refine Ev.step (f := fun k => crossbucklaw23_PolicySafe.l0 k l true true n ((i + 1 : Nat) : Int) a0 a1 a2 a3 a4 true a6 0 true a9 r l0 5 s) (fun k => ?_) (ih (i + 1) (by omega))
    simp only [crossbucklaw23_PolicySafe.l0]
    have hm : (rd_T31 l (i : Int)).f4 = false := by
      unfold rd_T31
      rw [Int.toNat_natCast, List.getD_eq_getElem?_getD, List.getElem?_eq_getElem hlt]
      have := List.any_eq_false.1 hf _ (List.getElem_mem hlt)
      simpa using this
    rw [if_pos (by omega), if_pos (by omega), if_neg (by rw [hm]; decide), e0]
theorem PolicySafe : ∀ (a0_0 : Bool) (a0_1 : Bool) (a0_2 : Bool) (a0_3 : Bool) (a0_4 : Bool) (a0_5 : Bool) (a0_6 : Bool) (a0_7 : Int) (a0_8 : Bool) (a0_9 : Bool) (a0_10 : Int) (l0_11 : List S34) (l1 : List S31) (a2_0 : Int) (a2_1 : Int) (a3 : Bool), (Lit.int .i64 a0_7).wf = true → (Lit.int .i64 a0_10).wf = true → (∀ x ∈ l1, (Lit.int .i64 x.f0.f1).wf = true ∧ (Lit.int .i64 x.f0.f2).wf = true ∧ (Lit.int .i64 x.f1.f0).wf = true ∧ (Lit.int .i64 x.f1.f1).wf = true ∧ (Lit.int .i64 x.f3).wf = true) → (Lit.int .i64 a2_0).wf = true → (Lit.int .i64 a2_1).wf = true → ∃ k, crossbucklaw23_PolicySafe.f k a0_0 a0_1 a0_2 a0_3 a0_4 a0_5 a0_6 a0_7 a0_8 a0_9 a0_10 l0_11 l1 a2_0 a2_1 a3 = some true := by
  intro a0 a1 a2 a3 a4 a5 a6 a7 a8 a9 r l0 l ph s pr _ hw _ _ _
  refine Ev.rounds ?_
  simp only [crossbucklaw23_PolicySafe.f, small23, Option.bind_some]
  by_cases g : (l.length : Int) > 8
  · simp only [g, if_true]; exact Ev.now true
  simp only [g, if_false]
  refine Ev.bind (sig_ev a0 a1 a2 a3 a4 a5 a6 a7 a8 a9 r l0 l ph s pr (by omega)) ?_
  by_cases hz : sigV a5 a7 a8 r l ph pr = 0
  · simp only [hz, if_true]; exact Ev.now true
  simp only [hz, if_false]
  have hz2 := hz
  unfold sigV at hz2
  by_cases hc : ph = 5 ∧ pr = true ∧ a7 = 0 ∧ goodB a5 a7 a8 l = true ∧ 0 ≤ r
  · obtain ⟨rfl, rfl, rfl, hg, hr⟩ := hc
    have hg2 := hg
    unfold goodB at hg2
    have h5 : a5 = true := by cases a5 <;> simp_all
    have h8 : a8 = true := by cases a8 <;> simp_all
    subst h5 h8
    have hf : (l.any fun x => x.f4) = false := by
      cases h : (l.any fun x => x.f4)
      · rfl
      · rw [h] at hg2; simp at hg2
    have hv : sigV true 0 true r l 5 true = r % 2 ^ l.length := by
      unfold sigV
      rw [if_pos ⟨rfl, rfl, rfl, hg, hr⟩, Nat.min_eq_left (by omega)]
    exact safe_loop l (by omega) hf r hr _ hv hz a0 a1 a2 a3 a4 a6 a9 l0 s l.length 0 (by omega)
  · rw [if_neg hc] at hz2
    exact absurd rfl hz2
end Go.Proofs.Ytnmcnailgdcmoaa.Pure
