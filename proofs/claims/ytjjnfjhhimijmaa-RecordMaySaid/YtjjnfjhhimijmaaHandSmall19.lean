/- The small case of chapter 19 comes out right. -/
import Derived.Test.YtjjnfjhhimijmaaAx1
import Derived.Test.YtjjnfjhhimijmaaHandGood
import Derived.Test.YtjjnfjhhimijmaaHas
namespace Go.Proofs.Ytjjnfjhhimijmaa.A
open Go.RowKit Go.Proofs.YtjjnfjhhimijmaaW.PrintWords Go.Proofs.YtjjnfjhhimijmaaW.PrintLast Go.Proofs.YtjjnfjhhimijmaaW.PrintMore
set_option linter.unusedVariables false
set_option linter.unusedSimpArgs false
attribute [local go_sem high] eqA31
def crossbucklaw19_small.f : Option Bool := some true
def s19a : S39 := ⟨⟨false, 0, 0, false⟩, ⟨0, 0, false⟩, true, 0, false, false⟩
def s19b : S39 := ⟨⟨false, 0, 0, false⟩, ⟨0, 0, false⟩, false, 3, false, false⟩
def s19c : S39 := ⟨⟨false, 0, 0, false⟩, ⟨0, 0, false⟩, false, 0, true, false⟩
theorem flat39 : ∀ (l : List S39) (i : Nat) (x : S39) (j : Nat) (u : Value), l[i]? = some x → (cells39 x).toList[j]? = some u → (l.flatMap fun x => (cells39 x).toList)[i * 11 + j]? = some u
  | [], i, x, j, u, h, _ => by simp at h
  | y :: l, 0, x, j, u, h, hj => by
    obtain rfl : y = x := by simpa using h
    have : j < (cells39 y).toList.length := (List.getElem?_eq_some_iff.1 hj).1
    rw [List.flatMap_cons, List.getElem?_append_left (by omega), show 0 * 11 + j = j by omega]
    exact hj
  | y :: l, i + 1, x, j, u, h, hj => by
    have e : (cells39 y).toList.length = 11 := rfl
    rw [List.flatMap_cons, List.getElem?_append_right (by rw [e]; omega), e, show (i + 1) * 11 + j - 11 = i * 11 + j by omega]
    exact flat39 l i x j u (by simpa using h) hj
theorem C39_lit {w : World} {b : Nat} {T : TypeId} (l : List S39) (hl : l.length ≤ 100) {cs : Array Value} (e : cs.toList = l.flatMap fun x => (cells39 x).toList) (h : w.heap[b]? = some (.cells cs T (0, 0))) : Kd.C k39 w (some ⟨b, 0, none⟩) l.length l := by
  refine ⟨rfl, by omega, fun _ => ⟨⟨b, 0, none⟩, rfl, fun i x hi => ⟨(cells39 x).toList, rfl, k39_mk _ _, fun j u hj => ?_⟩⟩⟩
  have := flat39 l i x j u hi hj
  rw [← e] at this
  have e2 : (⟨b, 0, none⟩ : Addr).add (i * 11 + j) = ⟨b, i * 11 + j, none⟩ := by
    simp [Addr.add]
    try omega
  show w.cell? ((⟨b, 0, none⟩ : Addr).add (i * 11 + j)) = some u
  rw [e2, blk_cell h, ← this]
  simp
set_option maxHeartbeats 8000000 in
set_option maxRecDepth 100000 in
theorem crossbucklaw19_small.calls (r : Bool) (w : World) (h : crossbucklaw19_small.f = some r) :
    Calls Try.prog 12 #[] w fun e w' => e = .returned (.bool r) ∧ Below w.heap.size w w' := by
  obtain rfl := Option.some.inj h
  clear h
  have hb0 : ((w.alloc (.cells #[.bool false, .bool false, .bool false, .bool false, .bool false, .bool true, .bool false, .int .i64 0, .bool true, .bool false, .int .i64 0, .slice none 0 0] 26)).alloc (.cells #[.bool false, .int .i64 0, .int .i64 0, .bool false, .int .i64 0, .int .i64 0, .bool false, .bool true, .int .i64 0, .bool false, .bool false, .bool false, .int .i64 0, .int .i64 0, .bool false, .int .i64 0, .int .i64 0, .bool false, .bool false, .int .i64 3, .bool false, .bool false] 39)).heap[w.heap.size + 1]? = some (.cells #[.bool false, .int .i64 0, .int .i64 0, .bool false, .int .i64 0, .int .i64 0, .bool false, .bool true, .int .i64 0, .bool false, .bool false, .bool false, .int .i64 0, .int .i64 0, .bool false, .int .i64 0, .int .i64 0, .bool false, .bool false, .int .i64 3, .bool false, .bool false] 39 (0, 0)) := by
    have e := blk_new (w.alloc (.cells #[.bool false, .bool false, .bool false, .bool false, .bool false, .bool true, .bool false, .int .i64 0, .bool true, .bool false, .int .i64 0, .slice none 0 0] 26)) (.cells #[.bool false, .int .i64 0, .int .i64 0, .bool false, .int .i64 0, .int .i64 0, .bool false, .bool true, .int .i64 0, .bool false, .bool false, .bool false, .int .i64 0, .int .i64 0, .bool false, .int .i64 0, .int .i64 0, .bool false, .bool false, .int .i64 3, .bool false, .bool false] 39 (0, 0))
    have e2 : (w.alloc (.cells #[.bool false, .bool false, .bool false, .bool false, .bool false, .bool true, .bool false, .int .i64 0, .bool true, .bool false, .int .i64 0, .slice none 0 0] 26)).heap.size = w.heap.size + 1 := by go_simp
    rw [e2] at e
    exact e
  have C0 := Aside0.mk (C39_lit [s19a, s19b] (by decide) rfl hb0)
  have B0 : Aside0 (Below w.heap.size w ((w.alloc (.cells #[.bool false, .bool false, .bool false, .bool false, .bool false, .bool true, .bool false, .int .i64 0, .bool true, .bool false, .int .i64 0, .slice none 0 0] 26)).alloc (.cells #[.bool false, .int .i64 0, .int .i64 0, .bool false, .int .i64 0, .int .i64 0, .bool false, .bool true, .int .i64 0, .bool false, .bool false, .bool false, .int .i64 0, .int .i64 0, .bool false, .int .i64 0, .int .i64 0, .bool false, .bool false, .int .i64 3, .bool false, .bool false] 39))) := ⟨by repeat (with_reducible first | exact Below.refl _ _ | apply below_alloc)⟩
  have K0 : Aside0 (Quiet.Has ((w.alloc (.cells #[.bool false, .bool false, .bool false, .bool false, .bool false, .bool true, .bool false, .int .i64 0, .bool true, .bool false, .int .i64 0, .slice none 0 0] 26)).alloc (.cells #[.bool false, .int .i64 0, .int .i64 0, .bool false, .int .i64 0, .int .i64 0, .bool false, .bool true, .int .i64 0, .bool false, .bool false, .bool false, .int .i64 0, .int .i64 0, .bool false, .int .i64 0, .int .i64 0, .bool false, .bool false, .int .i64 3, .bool false, .bool false] 39)) [(⟨w.heap.size, 0, none⟩, .bool false), (⟨w.heap.size, 1, none⟩, .bool false), (⟨w.heap.size, 2, none⟩, .bool false), (⟨w.heap.size, 3, none⟩, .bool false), (⟨w.heap.size, 4, none⟩, .bool false), (⟨w.heap.size, 5, none⟩, .bool true), (⟨w.heap.size, 6, none⟩, .bool false), (⟨w.heap.size, 7, none⟩, .int .i64 0), (⟨w.heap.size, 8, none⟩, .bool true), (⟨w.heap.size, 9, none⟩, .bool false), (⟨w.heap.size, 10, none⟩, .int .i64 0), (⟨w.heap.size, 11, none⟩, .slice none 0 0)]) := ⟨by simp only [Quiet.has_cons, Quiet.has_nil, and_true]; refine ⟨?_, ?_, ?_, ?_, ?_, ?_, ?_, ?_, ?_, ?_, ?_, ?_⟩ <;> go_simp⟩
  clear hb0
  go_enter Try.func12, Try.ntmps12
  go_wp2_with fail
  refine (demand_Good.core 9 false false false false false true false 0 true false 0 (.slice none 0 0) [] (some ⟨w.heap.size + 1, 0, none⟩) 2 [s19a, s19b]  true _ C0.out (by decide) (by decide +kernel)).mono ?_
  rintro e w1 ⟨rfl, hb⟩
  have B1 : Aside0 (Below w.heap.size w w1) := ⟨below_step (by repeat (with_reducible first | exact B0.out | apply below_alloc)) hb⟩
  have C1 : Aside0 (Kd.C k39 w1 (some ⟨w.heap.size + 1, 0, none⟩) 2 [s19a, s19b]) := ⟨Kd.C_below C0.out hb⟩
  have K1 := Aside0.mk (K0.out.bel hb)
  have k1 := K1.out
  simp only [Quiet.has_cons, Quiet.has_nil, and_true] at k1
  obtain ⟨u0, u1, u2, u3, u4, u5, u6, u7, u8, u9, u10, u11⟩ := k1
  clear hb
  go_wp2_with fail
  clear u0 u1 u2 u3 u4 u5 u6 u7 u8 u9 u10 u11
  refine (demand_Of.core 9 false false false false false true false 0 true false 0 (.slice none 0 0) [] (some ⟨w.heap.size + 1, 0, none⟩) 2 [s19a, s19b] false true false false _ C1.out (by decide) (by decide +kernel)).mono ?_
  rintro e w2 ⟨rfl, hb⟩
  have B2 : Aside0 (Below w.heap.size w w2) := ⟨below_step (by repeat (with_reducible first | exact B1.out | apply below_alloc)) hb⟩
  have C2 : Aside0 (Kd.C k39 w2 (some ⟨w.heap.size + 1, 0, none⟩) 2 [s19a, s19b]) := ⟨Kd.C_below C1.out hb⟩
  have K2 := Aside0.mk (K1.out.bel hb)
  have k2 := K2.out
  simp only [Quiet.has_cons, Quiet.has_nil, and_true] at k2
  obtain ⟨u0, u1, u2, u3, u4, u5, u6, u7, u8, u9, u10, u11⟩ := k2
  clear hb
  go_wp2_with fail
  clear u0 u1 u2 u3 u4 u5 u6 u7 u8 u9 u10 u11
  refine (demand_Of.core 9 false false false false false true false 0 true false 0 (.slice none 0 0) [] (some ⟨w.heap.size + 1, 0, none⟩) 2 [s19a, s19b] false false true false _ C2.out (by decide) (by decide +kernel)).mono ?_
  rintro e w3 ⟨rfl, hb⟩
  have B3 : Aside0 (Below w.heap.size w w3) := ⟨below_step (by repeat (with_reducible first | exact B2.out | apply below_alloc)) hb⟩
  have C3 : Aside0 (Kd.C k39 w3 (some ⟨w.heap.size + 1, 0, none⟩) 2 [s19a, s19b]) := ⟨Kd.C_below C2.out hb⟩
  have K3 := Aside0.mk (K2.out.bel hb)
  have k3 := K3.out
  simp only [Quiet.has_cons, Quiet.has_nil, and_true] at k3
  obtain ⟨u0, u1, u2, u3, u4, u5, u6, u7, u8, u9, u10, u11⟩ := k3
  clear hb
  go_wp2_with fail
  clear u0 u1 u2 u3 u4 u5 u6 u7 u8 u9 u10 u11
  refine (demand_Of.core 9 false false false false false true false 0 true false 0 (.slice none 0 0) [] none 0 [] true true true false _ (Kd.C_nil _ _) (by decide) (by decide +kernel)).mono ?_
  rintro e w4 ⟨rfl, hb⟩
  have B4 : Aside0 (Below w.heap.size w w4) := ⟨below_step (by repeat (with_reducible first | exact B3.out | apply below_alloc)) hb⟩
  have C4 : Aside0 (Kd.C k39 w4 (some ⟨w.heap.size + 1, 0, none⟩) 2 [s19a, s19b]) := ⟨Kd.C_below C3.out hb⟩
  have K4 := Aside0.mk (K3.out.bel hb)
  have k4 := K4.out
  simp only [Quiet.has_cons, Quiet.has_nil, and_true] at k4
  obtain ⟨u0, u1, u2, u3, u4, u5, u6, u7, u8, u9, u10, u11⟩ := k4
  clear hb
  go_wp2_with fail
  clear u0 u1 u2 u3 u4 u5 u6 u7 u8 u9 u10 u11
  refine (demand_Of.core 9 false false false false false true false 0 false false 0 (.slice none 0 0) [] none 0 [] false true true true _ (Kd.C_nil _ _) (by decide) (by decide +kernel)).mono ?_
  rintro e w5 ⟨rfl, hb⟩
  have B5 : Aside0 (Below w.heap.size w w5) := ⟨below_step (by repeat (with_reducible first | exact B4.out | apply below_alloc)) hb⟩
  have C5 : Aside0 (Kd.C k39 w5 (some ⟨w.heap.size + 1, 0, none⟩) 2 [s19a, s19b]) := ⟨Kd.C_below C4.out hb⟩
  have K5 := Aside0.mk (K4.out.bel hb)
  have k5 := K5.out
  simp only [Quiet.has_cons, Quiet.has_nil, and_true] at k5
  obtain ⟨u0, u1, u2, u3, u4, u5, u6, u7, u8, u9, u10, u11⟩ := k5
  clear hb
  go_wp2_with fail
  clear u0 u1 u2 u3 u4 u5 u6 u7 u8 u9 u10 u11
  have hd0 : (w5.alloc (.cells #[.bool false, .int .i64 0, .int .i64 0, .bool false, .int .i64 0, .int .i64 0, .bool false, .bool false, .int .i64 0, .bool true, .bool false] 39)).heap[w5.heap.size]? = some (.cells #[.bool false, .int .i64 0, .int .i64 0, .bool false, .int .i64 0, .int .i64 0, .bool false, .bool false, .int .i64 0, .bool true, .bool false] 39 (0, 0)) := blk_new w5 _
  have CD := Aside0.mk (C39_lit [s19c] (by decide) rfl hd0)
  clear hd0
  refine (demand_Good.core 9 false false false false false true false 0 true false 0 (.slice none 0 0) [] (some ⟨w5.heap.size, 0, none⟩) 1 [s19c]  false _ CD.out (by decide) (by decide +kernel)).mono ?_
  rintro e w6 ⟨rfl, hb⟩
  have B6 : Aside0 (Below w.heap.size w w6) := ⟨below_step (by repeat (with_reducible first | exact B5.out | apply below_alloc)) hb⟩
  clear hb
  go_wp2_with fail
  go_ret
  exact ⟨rfl, B6.out⟩
end Go.Proofs.Ytjjnfjhhimijmaa.A
