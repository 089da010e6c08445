/- The comparisons and the combinations of two numbers agree: the plain statement of EvalOrders, for every argument within the bounds of its row. -/
import Derived.Test.YtgoefoilghjfhaaPEvalOrdersx2
import Derived.OpenShut
namespace Go.Proofs.Ytgoefoilghjfhaa.Pure
open Go.RowKit Go.Proofs.Ytgoefoilghjfhaa.PEvalOrders Go.Proofs.YtgoefoilghjfhaaW.PrintWords Go.Proofs.YtgoefoilghjfhaaW.PrintLast Go.Proofs.YtgoefoilghjfhaaW.PrintMore
set_option linter.unusedVariables false
set_option linter.unusedSimpArgs false

theorem bd {x : Int} (h : (Lit.int .i64 x).wf = true) : -9223372036854775808 ≤ x ∧ x ≤ 9223372036854775807 := bounds_i64 h
theorem wrap_self {x : Int} (h : -9223372036854775808 ≤ x ∧ x ≤ 9223372036854775807) : wrap64 x = x := by unfold wrap64; omega
theorem wrap_add_mul (x k : Int) : wrap64 (x + 18446744073709551616 * k) = wrap64 x := by unfold wrap64; omega
theorem wrap_form (x : Int) : ∃ k, wrap64 x = x + 18446744073709551616 * k :=
  ⟨-((x + 9223372036854775808) / 18446744073709551616), by unfold wrap64; omega⟩
theorem wrap_mul_l (x y : Int) : wrap64 (wrap64 x * y) = wrap64 (x * y) := by
  obtain ⟨k, hk⟩ := wrap_form x
  rw [hk, Int.add_mul, Int.mul_assoc, wrap_add_mul]
theorem wrap_add_l (x y : Int) : wrap64 (wrap64 x + y) = wrap64 (x + y) := by
  obtain ⟨k, hk⟩ := wrap_form x
  rw [hk, show x + 18446744073709551616 * k + y = x + y + 18446744073709551616 * k from by omega, wrap_add_mul]
theorem wrap_add_r (x y : Int) : wrap64 (x + wrap64 y) = wrap64 (x + y) := by
  rw [Int.add_comm, wrap_add_l, Int.add_comm]
theorem emod_bd (a b : Int) (hb : b ≠ 0) : 0 ≤ a % b ∧ (0 < b → a % b < b) ∧ (b < 0 → a % b < -b) := by
  refine ⟨Int.emod_nonneg a hb, fun h => Int.emod_lt_of_pos a h, fun h => ?_⟩
  have := Int.emod_lt_of_pos a (b := -b) (by omega)
  rwa [Int.emod_neg] at this
theorem tmod_pos {a b : Int} (ha : 0 ≤ a) (hb : b ≠ 0) : 0 ≤ Int.tmod a b ∧ (0 < b → Int.tmod a b < b) ∧ (b < 0 → Int.tmod a b < -b) := by
  rw [Int.tmod_eq_emod_of_nonneg ha]; exact emod_bd a b hb
theorem tmod_neg {a b : Int} (ha : a ≤ 0) (hb : b ≠ 0) : Int.tmod a b ≤ 0 ∧ (0 < b → -b < Int.tmod a b) ∧ (b < 0 → b < Int.tmod a b) := by
  have e : Int.tmod a b = -((-a) % b) := by
    rw [← Int.tmod_eq_emod_of_nonneg (by omega), Int.neg_tmod, Int.neg_neg]
  have h := emod_bd (-a) b hb
  rw [e]
  exact ⟨by omega, fun h' => by have := h.2.1 h'; omega, fun h' => by have := h.2.2 h'; omega⟩
theorem truth_some (b : Bool) : eval_truth.f b = some (if b = true then 1 else 0) := by unfold eval_truth.f; split <;> rfl
theorem bin13 (k : Nat) (a b : Int) : eval_Binary.f (k + 1) 13 a b = some (if a < b then 1 else 0, true) := by
  simp [eval_Binary.f, eval_Binary.j0, truth_some]
theorem bin11 (k : Nat) (a b : Int) : eval_Binary.f (k + 1) 11 a b = some (if a = b then 1 else 0, true) := by
  simp [eval_Binary.f, eval_Binary.j0, truth_some]
theorem bin15 (k : Nat) (a b : Int) : eval_Binary.f (k + 1) 15 a b = some (if b < a then 1 else 0, true) := by
  simp [eval_Binary.f, eval_Binary.j0, truth_some]
theorem bin16 (k : Nat) (a b : Int) : eval_Binary.f (k + 1) 16 a b = some (if b ≤ a then 1 else 0, true) := by
  simp [eval_Binary.f, eval_Binary.j0, truth_some]
theorem bin12 (k : Nat) (a b : Int) : eval_Binary.f (k + 1) 12 a b = some (if a = b then 0 else 1, true) := by
  by_cases h : a = b <;> simp [eval_Binary.f, eval_Binary.j0, truth_some, h]
theorem bin14 (k : Nat) (a b : Int) : eval_Binary.f (k + 1) 14 a b = some (if a ≤ b then 1 else 0, true) := by
  simp [eval_Binary.f, eval_Binary.j0, truth_some]
theorem bin17 (k : Nat) (a b : Int) : eval_Binary.f (k + 1) 17 a b = some (if a = 0 then 0 else if b = 0 then 0 else 1, true) := by
  by_cases h : a = 0 <;> by_cases h2 : b = 0 <;> simp [eval_Binary.f, eval_Binary.j0, truth_some, h, h2]
theorem bin18 (k : Nat) (a b : Int) : eval_Binary.f (k + 1) 18 a b = some (if a = 0 then (if b = 0 then 0 else 1) else 1, true) := by
  by_cases h : a = 0 <;> by_cases h2 : b = 0 <;> simp [eval_Binary.f, eval_Binary.j0, truth_some, h, h2]
theorem un5 (a : Int) : eval_Unary.f 5 a = some (if a = 0 then 1 else 0, true) := by
  simp [eval_Unary.f, truth_some]
theorem step_l0 (k : Nat) (a b : Int) (ops x6 : List Int) (i v : Int) (h0 : 0 ≤ i) (h1 : i < (ops.length : Int)) (h2 : i < (x6.length : Int)) (hw : i < 1000) (hv : eval_Binary.f k (rd ops i) a b = some (v, true)) (h01 : v = 0 ∨ v = 1) :
    interleavelaw05_EvalOrders.l0 (k + 1) a b ops x6 i = interleavelaw05_EvalOrders.l0 k a b ops (x6.set i.toNat v) (i + 1) := by
  rw [interleavelaw05_EvalOrders.l0]
  rw [if_pos h1, if_pos h0, hv]
  simp only [Option.bind_some, if_true]
  rw [if_pos h2, show wrap64 (i + 1) = i + 1 from by unfold wrap64; omega]
  rcases h01 with h | h
  · rw [if_pos h]
  · rw [if_neg (by omega), if_pos h]
theorem one_or (p : Prop) [Decidable p] : (if p then (1 : Int) else 0) = 0 ∨ (if p then (1 : Int) else 0) = 1 := by split <;> simp
theorem EvalOrders : interleavelaw05_EvalOrders.Pure := by
  intro a b _ _
  refine ⟨10, ?_⟩
  unfold interleavelaw05_EvalOrders.f
  simp only [Option.bind_some, List.length_cons, List.length_nil]
  rw [if_pos (by omega), if_pos (by omega)]
  obtain ⟨v0, e0⟩ : ∃ v : Int, v = (if a < b then (1 : Int) else 0) := ⟨_, rfl⟩
  obtain ⟨v1, e1⟩ : ∃ v, v = (if a = b then (1 : Int) else 0) := ⟨_, rfl⟩
  obtain ⟨v2, e2⟩ : ∃ v, v = (if b < a then (1 : Int) else 0) := ⟨_, rfl⟩
  obtain ⟨v3, e3⟩ : ∃ v, v = (if b ≤ a then (1 : Int) else 0) := ⟨_, rfl⟩
  obtain ⟨v4, e4⟩ : ∃ v, v = (if a = b then (0 : Int) else 1) := ⟨_, rfl⟩
  obtain ⟨v5, e5⟩ : ∃ v, v = (if a ≤ b then (1 : Int) else 0) := ⟨_, rfl⟩
  obtain ⟨v6, e6⟩ : ∃ v, v = (if a = 0 then (0 : Int) else if b = 0 then 0 else 1) := ⟨_, rfl⟩
  obtain ⟨v7, e7⟩ : ∃ v, v = (if a = 0 then (if b = 0 then (0 : Int) else 1) else 1) := ⟨_, rfl⟩
  have z0 : v0 = 0 ∨ v0 = 1 := by rw [e0]; split <;> simp
  have z1 : v1 = 0 ∨ v1 = 1 := by rw [e1]; split <;> simp
  have z2 : v2 = 0 ∨ v2 = 1 := by rw [e2]; split <;> simp
  have z3 : v3 = 0 ∨ v3 = 1 := by rw [e3]; split <;> simp
  have z4 : v4 = 0 ∨ v4 = 1 := by rw [e4]; split <;> simp
  have z5 : v5 = 0 ∨ v5 = 1 := by rw [e5]; split <;> simp
  have z6 : v6 = 0 ∨ v6 = 1 := by rw [e6]; (repeat' split) <;> simp
  have z7 : v7 = 0 ∨ v7 = 1 := by rw [e7]; (repeat' split) <;> simp
  have b0 : eval_Binary.f 9 (rd [13, 11, 15, 16, 12, 14, 17, 18] 0) a b = some (v0, true) := by rw [e0]; exact bin13 8 a b
  have b1 : eval_Binary.f 8 (rd [13, 11, 15, 16, 12, 14, 17, 18] 1) a b = some (v1, true) := by rw [e1]; exact bin11 7 a b
  have b2 : eval_Binary.f 7 (rd [13, 11, 15, 16, 12, 14, 17, 18] 2) a b = some (v2, true) := by rw [e2]; exact bin15 6 a b
  have b3 : eval_Binary.f 6 (rd [13, 11, 15, 16, 12, 14, 17, 18] 3) a b = some (v3, true) := by rw [e3]; exact bin16 5 a b
  have b4 : eval_Binary.f 5 (rd [13, 11, 15, 16, 12, 14, 17, 18] 4) a b = some (v4, true) := by rw [e4]; exact bin12 4 a b
  have b5 : eval_Binary.f 4 (rd [13, 11, 15, 16, 12, 14, 17, 18] 5) a b = some (v5, true) := by rw [e5]; exact bin14 3 a b
  have b6 : eval_Binary.f 3 (rd [13, 11, 15, 16, 12, 14, 17, 18] 6) a b = some (v6, true) := by rw [e6]; exact bin17 2 a b
  have b7 : eval_Binary.f 2 (rd [13, 11, 15, 16, 12, 14, 17, 18] 7) a b = some (v7, true) := by rw [e7]; exact bin18 1 a b
  have s0 : ∀ z : List Int, z.length = 8 → interleavelaw05_EvalOrders.l0 10 a b [13, 11, 15, 16, 12, 14, 17, 18] z 0 = interleavelaw05_EvalOrders.l0 2 a b [13, 11, 15, 16, 12, 14, 17, 18] ((((((((z.set 0 v0).set 1 v1).set 2 v2).set 3 v3).set 4 v4).set 5 v5).set 6 v6).set 7 v7) 8 := by
    intro z hz
    have n1 : (0 : Int) + 1 = 1 := rfl
    have n2 : (1 : Int) + 1 = 2 := rfl
    have n3 : (2 : Int) + 1 = 3 := rfl
    have n4 : (3 : Int) + 1 = 4 := rfl
    have n5 : (4 : Int) + 1 = 5 := rfl
    have n6 : (5 : Int) + 1 = 6 := rfl
    have n7 : (6 : Int) + 1 = 7 := rfl
    rw [step_l0 9 a b _ _ 0 v0 (by omega) (by simp) (by simp [hz]) (by omega) b0 z0, n1]
    rw [step_l0 8 a b _ _ 1 v1 (by omega) (by simp) (by simp [hz]) (by omega) b1 z1, n2]
    rw [step_l0 7 a b _ _ 2 v2 (by omega) (by simp) (by simp [hz]) (by omega) b2 z2, n3]
    rw [step_l0 6 a b _ _ 3 v3 (by omega) (by simp) (by simp [hz]) (by omega) b3 z3, n4]
    rw [step_l0 5 a b _ _ 4 v4 (by omega) (by simp) (by simp [hz]) (by omega) b4 z4, n5]
    rw [step_l0 4 a b _ _ 5 v5 (by omega) (by simp) (by simp [hz]) (by omega) b5 z5, n6]
    rw [step_l0 3 a b _ _ 6 v6 (by omega) (by simp) (by simp [hz]) (by omega) b6 z6, n7]
    rw [step_l0 2 a b _ _ 7 v7 (by omega) (by simp) (by simp [hz]) (by omega) b7 z7]
    rfl
  rw [s0 _ (by simp)]
  have hz : ((((((((List.replicate (((0 + 1 + 1 + 1 + 1 + 1 + 1 + 1 + 1 : Nat) : Int)).toNat (0 : Int)).set 0 v0).set 1 v1).set 2 v2).set 3 v3).set 4 v4).set 5 v5).set 6 v6).set 7 v7 = [v0, v1, v2, v3, v4, v5, v6, v7] := rfl
  rw [hz, interleavelaw05_EvalOrders.l0]
  rw [if_neg (by simp)]
  have r0 : rd [v0, v1, v2, v3, v4, v5, v6, v7] 0 = v0 := rfl
  have r1 : rd [v0, v1, v2, v3, v4, v5, v6, v7] 1 = v1 := rfl
  have r2 : rd [v0, v1, v2, v3, v4, v5, v6, v7] 2 = v2 := rfl
  have r3 : rd [v0, v1, v2, v3, v4, v5, v6, v7] 3 = v3 := rfl
  have r4 : rd [v0, v1, v2, v3, v4, v5, v6, v7] 4 = v4 := rfl
  have r5 : rd [v0, v1, v2, v3, v4, v5, v6, v7] 5 = v5 := rfl
  have r6 : rd [v0, v1, v2, v3, v4, v5, v6, v7] 6 = v6 := rfl
  have r7 : rd [v0, v1, v2, v3, v4, v5, v6, v7] 7 = v7 := rfl
  have t0 : wrap64 ((wrap64 (v0 + v1)) + v2) = 1 := by
    rw [e0, e1, e2]
    by_cases c1 : a < b
    · rw [if_pos c1, if_neg (by omega), if_neg (by omega)]; (unfold wrap64; omega)
    · by_cases c2 : a = b
      · rw [if_neg c1, if_pos c2, if_neg (by omega)]; (unfold wrap64; omega)
      · rw [if_neg c1, if_neg c2, if_pos (by omega)]; (unfold wrap64; omega)
  have t3 : v3 = wrap64 (1 - v0) := by
    rw [e0, e3]
    by_cases c1 : a < b
    · rw [if_pos c1, if_neg (by omega)]; (unfold wrap64; omega)
    · rw [if_neg c1, if_pos (by omega)]; (unfold wrap64; omega)
  have t4 : v4 = wrap64 (1 - v1) := by
    rw [e1, e4]
    by_cases c1 : a = b
    · rw [if_pos c1, if_pos c1]; (unfold wrap64; omega)
    · rw [if_neg c1, if_neg c1]; (unfold wrap64; omega)
  have t5 : v5 = wrap64 (1 - v2) := by
    rw [e2, e5]
    by_cases c1 : b < a
    · rw [if_pos c1, if_neg (by omega)]; (unfold wrap64; omega)
    · rw [if_neg c1, if_pos (by omega)]; (unfold wrap64; omega)
  rw [r0, r1, r2, r3, r4, r5, if_pos (by simp), if_pos (by simp), if_pos (by simp), if_pos t0, if_pos (by simp), if_pos t3, if_pos (by simp), if_pos t4, if_pos (by simp), ← t5]
  rw [interleavelaw05_EvalOrders.j1]
  rw [if_neg (by simp), un5, un5]
  simp only [Option.bind_some]
  rw [r6, r7, if_pos (by simp)]
  have t6 : v6 = wrap64 (wrap64 (1 - (if a = 0 then 1 else 0)) * wrap64 (1 - (if b = 0 then 1 else 0))) := by
    rw [e6]
    by_cases c1 : a = 0 <;> by_cases c2 : b = 0 <;> simp only [c1, c2, if_true, if_false] <;> (unfold wrap64; omega)
  have t7 : v7 = wrap64 (1 - wrap64 ((if a = 0 then 1 else 0) * (if b = 0 then 1 else 0))) := by
    rw [e7]
    by_cases c1 : a = 0 <;> by_cases c2 : b = 0 <;> simp only [c1, c2, if_true, if_false] <;> (unfold wrap64; omega)
  rw [if_pos t6, if_pos (by simp), ← t7]
  simp

end Go.Proofs.Ytgoefoilghjfhaa.Pure
