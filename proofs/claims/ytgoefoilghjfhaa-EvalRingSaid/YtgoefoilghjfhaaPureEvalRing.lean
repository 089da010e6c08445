/- Addition and multiplication are a ring modulo 2 to the 64: the plain statement of EvalRing, for every argument within the bounds of its row. -/
import Derived.Test.YtgoefoilghjfhaaPEvalRingx1
import Derived.OpenShut
namespace Go.Proofs.Ytgoefoilghjfhaa.Pure
open Go.RowKit Go.Proofs.Ytgoefoilghjfhaa.PEvalRing Go.Proofs.YtgoefoilghjfhaaW.PrintWords Go.Proofs.YtgoefoilghjfhaaW.PrintLast Go.Proofs.YtgoefoilghjfhaaW.PrintMore
set_option linter.unusedVariables false
set_option linter.unusedSimpArgs false

theorem bd {x : Int} (h : (Lit.int .i64 x).wf = true) : -9223372036854775808 ≤ x ∧ x ≤ 9223372036854775807 := bounds_i64 h
theorem wrap_self {x : Int} (h : -9223372036854775808 ≤ x ∧ x ≤ 9223372036854775807) : wrap64 x = x := by unfold wrap64; omega
theorem wrap_add_mul (x k : Int) : wrap64 (x + 18446744073709551616 * k) = wrap64 x := by unfold wrap64; omega
theorem wrap_form (x : Int) : ∃ k, wrap64 x = x + 18446744073709551616 * k :=
  ⟨-((x + 9223372036854775808) / 18446744073709551616), by unfold wrap64; omega⟩
theorem wrap_mul_l (x y : Int) : wrap64 (wrap64 x * y) = wrap64 (x * y) := by
  obtain ⟨k, hk⟩ := wrap_form x
  rw [hk, Int.add_mul, Int.mul_assoc, wrap_add_mul]
theorem wrap_add_l (x y : Int) : wrap64 (wrap64 x + y) = wrap64 (x + y) := by
  obtain ⟨k, hk⟩ := wrap_form x
  rw [hk, show x + 18446744073709551616 * k + y = x + y + 18446744073709551616 * k from by omega, wrap_add_mul]
theorem wrap_add_r (x y : Int) : wrap64 (x + wrap64 y) = wrap64 (x + y) := by
  rw [Int.add_comm, wrap_add_l, Int.add_comm]
theorem emod_bd (a b : Int) (hb : b ≠ 0) : 0 ≤ a % b ∧ (0 < b → a % b < b) ∧ (b < 0 → a % b < -b) := by
  refine ⟨Int.emod_nonneg a hb, fun h => Int.emod_lt_of_pos a h, fun h => ?_⟩
  have := Int.emod_lt_of_pos a (b := -b) (by omega)
  rwa [Int.emod_neg] at this
theorem tmod_pos {a b : Int} (ha : 0 ≤ a) (hb : b ≠ 0) : 0 ≤ Int.tmod a b ∧ (0 < b → Int.tmod a b < b) ∧ (b < 0 → Int.tmod a b < -b) := by
  rw [Int.tmod_eq_emod_of_nonneg ha]; exact emod_bd a b hb
theorem tmod_neg {a b : Int} (ha : a ≤ 0) (hb : b ≠ 0) : Int.tmod a b ≤ 0 ∧ (0 < b → -b < Int.tmod a b) ∧ (b < 0 → b < Int.tmod a b) := by
  have e : Int.tmod a b = -((-a) % b) := by
    rw [← Int.tmod_eq_emod_of_nonneg (by omega), Int.neg_tmod, Int.neg_neg]
  have h := emod_bd (-a) b hb
  rw [e]
  exact ⟨by omega, fun h' => by have := h.2.1 h'; omega, fun h' => by have := h.2.2 h'; omega⟩
theorem truth_some (b : Bool) : eval_truth.f b = some (if b = true then 1 else 0) := by unfold eval_truth.f; split <;> rfl
theorem bin6 (k : Nat) (a b : Int) : eval_Binary.f k 6 a b = some (wrap64 (a + b), true) := by simp [eval_Binary.f]
theorem bin7 (k : Nat) (a b : Int) : eval_Binary.f k 7 a b = some (wrap64 (a - b), true) := by simp [eval_Binary.f]
theorem bin8 (k : Nat) (a b : Int) : eval_Binary.f k 8 a b = some (wrap64 (a * b), true) := by simp [eval_Binary.f]
theorem un4 (a : Int) : eval_Unary.f 4 a = some (wrap64 (-a), true) := by simp [eval_Unary.f]
theorem EvalRing : interleavelaw05_EvalRing.Pure := by
  intro a b c _ _ _
  refine ⟨1, ?_⟩
  have e1 : wrap64 (a + b) = wrap64 (b + a) := by rw [Int.add_comm]
  have e2 : wrap64 (wrap64 (a + b) * c) = wrap64 (wrap64 (c * a) + wrap64 (c * b)) := by
    rw [wrap_mul_l, wrap_add_l, wrap_add_r, ← Int.mul_add, Int.mul_comm]
  have e3 : wrap64 (a - b) = wrap64 (a + wrap64 (-b)) := by rw [wrap_add_r, Int.sub_eq_add_neg]
  have e4 : wrap64 (2 + 3) = 5 := by unfold wrap64; omega
  unfold interleavelaw05_EvalRing.f interleavelaw05_awake.f
  simp only [bin6, bin7, bin8, un4, Option.bind_some, if_true]
  rw [if_pos e1, if_pos e2, if_pos e3, e4, if_pos rfl]; rfl

end Go.Proofs.Ytgoefoilghjfhaa.Pure
