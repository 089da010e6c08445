/- Unary and Binary answer as the reference does for every operator: the plain statement of EvalTells, for every argument within the bounds of its row. -/
import Derived.Test.YtgoefoilghjfhaaPEvalTellsx2
import Derived.OpenShut
namespace Go.Proofs.Ytgoefoilghjfhaa.Pure
open Go.RowKit Go.Proofs.Ytgoefoilghjfhaa.PEvalTells Go.Proofs.YtgoefoilghjfhaaW.PrintWords Go.Proofs.YtgoefoilghjfhaaW.PrintLast Go.Proofs.YtgoefoilghjfhaaW.PrintMore
set_option linter.unusedVariables false
set_option linter.unusedSimpArgs false

theorem bd {x : Int} (h : (Lit.int .i64 x).wf = true) : -9223372036854775808 ≤ x ∧ x ≤ 9223372036854775807 := bounds_i64 h
theorem wrap_self {x : Int} (h : -9223372036854775808 ≤ x ∧ x ≤ 9223372036854775807) : wrap64 x = x := by unfold wrap64; omega
theorem wrap_add_mul (x k : Int) : wrap64 (x + 18446744073709551616 * k) = wrap64 x := by unfold wrap64; omega
theorem wrap_form (x : Int) : ∃ k, wrap64 x = x + 18446744073709551616 * k :=
  ⟨-((x + 9223372036854775808) / 18446744073709551616), by unfold wrap64; omega⟩
theorem wrap_mul_l (x y : Int) : wrap64 (wrap64 x * y) = wrap64 (x * y) := by
  obtain ⟨k, hk⟩ := wrap_form x
  rw [hk, Int.add_mul, Int.mul_assoc, wrap_add_mul]
theorem wrap_add_l (x y : Int) : wrap64 (wrap64 x + y) = wrap64 (x + y) := by
  obtain ⟨k, hk⟩ := wrap_form x
  rw [hk, show x + 18446744073709551616 * k + y = x + y + 18446744073709551616 * k from by omega, wrap_add_mul]
theorem wrap_add_r (x y : Int) : wrap64 (x + wrap64 y) = wrap64 (x + y) := by
  rw [Int.add_comm, wrap_add_l, Int.add_comm]
theorem emod_bd (a b : Int) (hb : b ≠ 0) : 0 ≤ a % b ∧ (0 < b → a % b < b) ∧ (b < 0 → a % b < -b) := by
  refine ⟨Int.emod_nonneg a hb, fun h => Int.emod_lt_of_pos a h, fun h => ?_⟩
  have := Int.emod_lt_of_pos a (b := -b) (by omega)
  rwa [Int.emod_neg] at this
theorem tmod_pos {a b : Int} (ha : 0 ≤ a) (hb : b ≠ 0) : 0 ≤ Int.tmod a b ∧ (0 < b → Int.tmod a b < b) ∧ (b < 0 → Int.tmod a b < -b) := by
  rw [Int.tmod_eq_emod_of_nonneg ha]; exact emod_bd a b hb
theorem tmod_neg {a b : Int} (ha : a ≤ 0) (hb : b ≠ 0) : Int.tmod a b ≤ 0 ∧ (0 < b → -b < Int.tmod a b) ∧ (b < 0 → b < Int.tmod a b) := by
  have e : Int.tmod a b = -((-a) % b) := by
    rw [← Int.tmod_eq_emod_of_nonneg (by omega), Int.neg_tmod, Int.neg_neg]
  have h := emod_bd (-a) b hb
  rw [e]
  exact ⟨by omega, fun h' => by have := h.2.1 h'; omega, fun h' => by have := h.2.2 h'; omega⟩
theorem truth_some (b : Bool) : eval_truth.f b = some (if b = true then 1 else 0) := by unfold eval_truth.f; split <;> rfl
theorem rtruth_eq (b : Bool) : interleaveref05_truth.f b = eval_truth.f b := rfl
theorem bin_eq (k : Nat) (op a b : Int) : eval_Binary.f (k + 1) op a b = interleaveref05_Binary.f op a b := by
  unfold eval_Binary.f interleaveref05_Binary.f
  by_cases h6 : op = 6
  · rw [if_pos h6, if_pos h6]
  rw [if_neg h6, if_neg h6]
  by_cases h7 : op = 7
  · rw [if_pos h7, if_pos h7]
  rw [if_neg h7, if_neg h7]
  by_cases h8 : op = 8
  · rw [if_pos h8, if_pos h8]
  rw [if_neg h8, if_neg h8]
  by_cases h9 : op = 9
  · subst h9
    by_cases hb : b = 0 <;> simp [eval_Binary.j0, eval_divide.f, hb]
  rw [if_neg h9, if_neg h9]
  by_cases h10 : op = 10
  · subst h10
    by_cases hb : b = 0 <;> simp [eval_Binary.j0, eval_divide.f, hb]
  rw [if_neg h10]
  have e10 : (op == 10) = false := by simp [h10]
  rw [e10]
  simp only [eval_Binary.j0, Bool.false_eq_true, if_false, rtruth_eq]
theorem some_pair (o : Option (Int × Bool)) (h : o.isSome = true) : ∃ v t, o = some (v, t) := by
  cases o with
  | none => exact absurd h (by simp)
  | some p => exact ⟨p.1, p.2, rfl⟩
theorem is_ite {p : Prop} [Decidable p] {x y : Option (Int × Bool)} (h1 : x.isSome = true) (h2 : y.isSome = true) : (if p then x else y).isSome = true := by
  by_cases h : p
  · rw [if_pos h]; exact h1
  · rw [if_neg h]; exact h2
theorem bin_ref (op a b : Int) : ∃ v t, interleaveref05_Binary.f op a b = some (v, t) := by
  apply some_pair
  unfold interleaveref05_Binary.f
  simp only [rtruth_eq, truth_some, Option.bind_some]
  repeat' (first | exact rfl | refine is_ite ?_ ?_)
theorem un_ref (op a : Int) : ∃ v t, interleaveref05_Unary.f op a = some (v, t) := by
  apply some_pair
  unfold interleaveref05_Unary.f
  simp only [rtruth_eq, truth_some, Option.bind_some]
  repeat' (first | exact rfl | refine is_ite ?_ ?_)
theorem un_eq (op a : Int) : eval_Unary.f op a = interleaveref05_Unary.f op a := rfl
theorem tells_true (k : Nat) (op a b : Int) : interleavelaw05_tells.f (k + 1) op a b = some true := by
  unfold interleavelaw05_tells.f interleavelaw05_awake.f
  obtain ⟨v, t, h⟩ := bin_ref op a b
  obtain ⟨v', t', h'⟩ := un_ref op a
  have hw : wrap64 (2 + 3) = 5 := by unfold wrap64; omega
  have ha : interleaveref05_Binary.f 6 2 3 = some (5, true) := by simp [interleaveref05_Binary.f, show wrap64 5 = 5 from by unfold wrap64; omega]
  rw [un_eq, bin_eq, bin_eq, h, h', ha]
  simp
theorem tells_l0 (op a b : Int) : ∀ (d k : Nat) (i : Int), 0 ≤ i → 20 - i ≤ d → d + 1 < k → interleavelaw05_EvalTells.l0 k op a b i = some true := by
  intro d
  induction d with
  | zero =>
    intro k i h0 h1 hk
    obtain ⟨k, rfl⟩ : ∃ m, k = m + 2 := ⟨k - 2, by omega⟩
    simp only [interleavelaw05_EvalTells.l0]; rw [if_neg (by omega), tells_true]; rfl
  | succ d ih =>
    intro k i h0 h1 hk
    obtain ⟨k, rfl⟩ : ∃ m, k = m + 2 := ⟨k - 2, by omega⟩
    rw [interleavelaw05_EvalTells.l0, tells_true, tells_true]
    by_cases hlt : i ≤ 19
    · rw [if_pos hlt, show wrap64 (i + 1) = i + 1 from by unfold wrap64; omega]
      simp only [Option.bind_some, if_true]
      exact ih (k + 1) (i + 1) (by omega) (by omega) (by omega)
    · rw [if_neg hlt]; rfl
theorem EvalTells : interleavelaw05_EvalTells.Pure := by
  intro op a b _ _ _
  exact ⟨30, tells_l0 op a b 20 30 0 (by omega) (by omega) (by omega)⟩

end Go.Proofs.Ytgoefoilghjfhaa.Pure
