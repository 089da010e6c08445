/- Index is the remainder from 0 to n - 1: the plain statement of EvalIndexes, for every argument within the bounds of its row. -/
import Derived.Test.YtgoefoilghjfhaaPEvalIndexesx1
import Derived.OpenShut
namespace Go.Proofs.Ytgoefoilghjfhaa.Pure
open Go.RowKit Go.Proofs.Ytgoefoilghjfhaa.PEvalIndexes Go.Proofs.YtgoefoilghjfhaaW.PrintWords Go.Proofs.YtgoefoilghjfhaaW.PrintLast Go.Proofs.YtgoefoilghjfhaaW.PrintMore
set_option linter.unusedVariables false
set_option linter.unusedSimpArgs false

theorem bd {x : Int} (h : (Lit.int .i64 x).wf = true) : -9223372036854775808 ≤ x ∧ x ≤ 9223372036854775807 := bounds_i64 h
theorem wrap_self {x : Int} (h : -9223372036854775808 ≤ x ∧ x ≤ 9223372036854775807) : wrap64 x = x := by unfold wrap64; omega
theorem wrap_add_mul (x k : Int) : wrap64 (x + 18446744073709551616 * k) = wrap64 x := by unfold wrap64; omega
theorem wrap_form (x : Int) : ∃ k, wrap64 x = x + 18446744073709551616 * k :=
  ⟨-((x + 9223372036854775808) / 18446744073709551616), by unfold wrap64; omega⟩
theorem wrap_mul_l (x y : Int) : wrap64 (wrap64 x * y) = wrap64 (x * y) := by
  obtain ⟨k, hk⟩ := wrap_form x
  rw [hk, Int.add_mul, Int.mul_assoc, wrap_add_mul]
theorem wrap_add_l (x y : Int) : wrap64 (wrap64 x + y) = wrap64 (x + y) := by
  obtain ⟨k, hk⟩ := wrap_form x
  rw [hk, show x + 18446744073709551616 * k + y = x + y + 18446744073709551616 * k from by omega, wrap_add_mul]
theorem wrap_add_r (x y : Int) : wrap64 (x + wrap64 y) = wrap64 (x + y) := by
  rw [Int.add_comm, wrap_add_l, Int.add_comm]
theorem emod_bd (a b : Int) (hb : b ≠ 0) : 0 ≤ a % b ∧ (0 < b → a % b < b) ∧ (b < 0 → a % b < -b) := by
  refine ⟨Int.emod_nonneg a hb, fun h => Int.emod_lt_of_pos a h, fun h => ?_⟩
  have := Int.emod_lt_of_pos a (b := -b) (by omega)
  rwa [Int.emod_neg] at this
theorem tmod_pos {a b : Int} (ha : 0 ≤ a) (hb : b ≠ 0) : 0 ≤ Int.tmod a b ∧ (0 < b → Int.tmod a b < b) ∧ (b < 0 → Int.tmod a b < -b) := by
  rw [Int.tmod_eq_emod_of_nonneg ha]; exact emod_bd a b hb
theorem tmod_neg {a b : Int} (ha : a ≤ 0) (hb : b ≠ 0) : Int.tmod a b ≤ 0 ∧ (0 < b → -b < Int.tmod a b) ∧ (b < 0 → b < Int.tmod a b) := by
  have e : Int.tmod a b = -((-a) % b) := by
    rw [← Int.tmod_eq_emod_of_nonneg (by omega), Int.neg_tmod, Int.neg_neg]
  have h := emod_bd (-a) b hb
  rw [e]
  exact ⟨by omega, fun h' => by have := h.2.1 h'; omega, fun h' => by have := h.2.2 h'; omega⟩
theorem truth_some (b : Bool) : eval_truth.f b = some (if b = true then 1 else 0) := by unfold eval_truth.f; split <;> rfl
theorem tmod_adj {i n : Int} (hn : 1 ≤ n) : (if Int.tmod i n < 0 then Int.tmod i n + n else Int.tmod i n) = i % n := by
  by_cases hi : 0 ≤ i
  · have := tmod_pos hi (by omega : n ≠ 0)
    rw [if_neg (by omega), Int.tmod_eq_emod_of_nonneg hi]
  · have e : Int.tmod i n = -((-i) % n) := by
      rw [← Int.tmod_eq_emod_of_nonneg (by omega), Int.neg_tmod, Int.neg_neg]
    have h1 := emod_bd (-i) n (by omega)
    have h2 := h1.2.1 (by omega)
    have h3 := Int.mul_ediv_add_emod (-i) n
    obtain ⟨q, hq⟩ : ∃ q, (-i) / n = q := ⟨_, rfl⟩
    obtain ⟨r, hr⟩ : ∃ r, (-i) % n = r := ⟨_, rfl⟩
    rw [hq] at h3
    rw [hr] at e h1 h2 h3
    rw [e]
    by_cases hz : r = 0
    · rw [if_neg (by omega)]
      have : i = n * (-q) := by rw [Int.mul_neg]; omega
      rw [this, Int.mul_emod_right]; omega
    · rw [if_pos (by omega)]
      have : i = (-r + n) + n * (-q - 1) := by rw [Int.mul_sub, Int.mul_neg, Int.mul_one]; omega
      rw [this, Int.add_mul_emod_self_left, Int.emod_eq_of_lt (by omega) (by omega)]
theorem idx_some {i n : Int} (hn : 1 ≤ n) (hn2 : n ≤ 9223372036854775807) : eval_Index.f i n = some (i % n) := by
  rw [← tmod_adj hn]
  unfold eval_Index.f
  rw [if_neg (by omega), if_neg (by omega)]
  by_cases h : Int.tmod i n < 0
  · have hi : i ≤ 0 := by
      by_cases hi : i ≤ 0
      · exact hi
      · have := (tmod_pos (b := n) (by omega : 0 ≤ i) (by omega)).1; omega
    have := (tmod_neg hi (by omega : n ≠ 0)).2.1 (by omega)
    rw [if_pos h, if_pos h, wrap_self (by omega)]
  · rw [if_neg h, if_neg h]
theorem EvalIndexes : interleavelaw05_EvalIndexes.Pure := by
  intro i n hi hn
  have hi := bd hi
  have hn := bd hn
  have e4 : wrap64 (2 + 3) = 5 := by unfold wrap64; omega
  have e5 : wrap64 5 = 5 := by unfold wrap64; omega
  have aw : ∀ k, interleavelaw05_awake.f k = some true := fun k => by simp [interleavelaw05_awake.f, eval_Binary.f, e5]
  refine ⟨2, ?_⟩
  unfold interleavelaw05_EvalIndexes.f
  by_cases h1 : n < 1
  · simp [eval_Index.f, h1, aw]
  · have he : interleaveref05_Index.f i n = eval_Index.f i n := rfl
    have hb := emod_bd i n (by omega)
    have hb2 := hb.2.1 (by omega)
    rw [he, idx_some (by omega) hn.2]
    simp only [Option.bind_some, if_true]
    rw [if_neg h1, if_neg (by omega), decide_eq_false (by omega)]
    simp only [interleavelaw05_EvalIndexes.j0, aw, Bool.false_eq_true, if_false, Option.bind_some]
    by_cases h2 : i ≥ 4611686018427387904
    · rw [if_pos h2]
    rw [if_neg h2]
    by_cases h3 : n ≥ 4611686018427387904
    · rw [if_pos h3]
    rw [if_neg h3, wrap_self (by omega), idx_some (by omega) hn.2, Int.add_emod_right]
    simp

end Go.Proofs.Ytgoefoilghjfhaa.Pure
