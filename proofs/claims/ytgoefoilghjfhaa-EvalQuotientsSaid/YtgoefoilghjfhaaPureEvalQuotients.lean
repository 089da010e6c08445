/- A number is the quotient times the divisor plus the remainder, and the remainder is small and of its sign: the plain statement of EvalQuotients, for every argument within the bounds of its row. -/
import Derived.Test.YtgoefoilghjfhaaPEvalQuotientsx2
import Derived.OpenShut
namespace Go.Proofs.Ytgoefoilghjfhaa.Pure
open Go.RowKit Go.Proofs.Ytgoefoilghjfhaa.PEvalQuotients Go.Proofs.YtgoefoilghjfhaaW.PrintWords Go.Proofs.YtgoefoilghjfhaaW.PrintLast Go.Proofs.YtgoefoilghjfhaaW.PrintMore
set_option linter.unusedVariables false
set_option linter.unusedSimpArgs false

theorem bd {x : Int} (h : (Lit.int .i64 x).wf = true) : -9223372036854775808 ≤ x ∧ x ≤ 9223372036854775807 := bounds_i64 h
theorem wrap_self {x : Int} (h : -9223372036854775808 ≤ x ∧ x ≤ 9223372036854775807) : wrap64 x = x := by unfold wrap64; omega
theorem wrap_add_mul (x k : Int) : wrap64 (x + 18446744073709551616 * k) = wrap64 x := by unfold wrap64; omega
theorem wrap_form (x : Int) : ∃ k, wrap64 x = x + 18446744073709551616 * k :=
  ⟨-((x + 9223372036854775808) / 18446744073709551616), by unfold wrap64; omega⟩
theorem wrap_mul_l (x y : Int) : wrap64 (wrap64 x * y) = wrap64 (x * y) := by
  obtain ⟨k, hk⟩ := wrap_form x
  rw [hk, Int.add_mul, Int.mul_assoc, wrap_add_mul]
theorem wrap_add_l (x y : Int) : wrap64 (wrap64 x + y) = wrap64 (x + y) := by
  obtain ⟨k, hk⟩ := wrap_form x
  rw [hk, show x + 18446744073709551616 * k + y = x + y + 18446744073709551616 * k from by omega, wrap_add_mul]
theorem wrap_add_r (x y : Int) : wrap64 (x + wrap64 y) = wrap64 (x + y) := by
  rw [Int.add_comm, wrap_add_l, Int.add_comm]
theorem emod_bd (a b : Int) (hb : b ≠ 0) : 0 ≤ a % b ∧ (0 < b → a % b < b) ∧ (b < 0 → a % b < -b) := by
  refine ⟨Int.emod_nonneg a hb, fun h => Int.emod_lt_of_pos a h, fun h => ?_⟩
  have := Int.emod_lt_of_pos a (b := -b) (by omega)
  rwa [Int.emod_neg] at this
theorem tmod_pos {a b : Int} (ha : 0 ≤ a) (hb : b ≠ 0) : 0 ≤ Int.tmod a b ∧ (0 < b → Int.tmod a b < b) ∧ (b < 0 → Int.tmod a b < -b) := by
  rw [Int.tmod_eq_emod_of_nonneg ha]; exact emod_bd a b hb
theorem tmod_neg {a b : Int} (ha : a ≤ 0) (hb : b ≠ 0) : Int.tmod a b ≤ 0 ∧ (0 < b → -b < Int.tmod a b) ∧ (b < 0 → b < Int.tmod a b) := by
  have e : Int.tmod a b = -((-a) % b) := by
    rw [← Int.tmod_eq_emod_of_nonneg (by omega), Int.neg_tmod, Int.neg_neg]
  have h := emod_bd (-a) b hb
  rw [e]
  exact ⟨by omega, fun h' => by have := h.2.1 h'; omega, fun h' => by have := h.2.2 h'; omega⟩
theorem truth_some (b : Bool) : eval_truth.f b = some (if b = true then 1 else 0) := by unfold eval_truth.f; split <;> rfl
theorem bin9 (k : Nat) (a b : Int) (hb : b ≠ 0) : eval_Binary.f (k + 1) 9 a b = some (wrap64 (Int.tdiv a b), true) := by
  simp [eval_Binary.f, eval_Binary.j0, eval_divide.f, hb]
theorem bin10 (k : Nat) (a b : Int) (hb : b ≠ 0) : eval_Binary.f (k + 1) 10 a b = some (Int.tmod a b, true) := by
  simp [eval_Binary.f, eval_Binary.j0, eval_divide.f, hb]
theorem sign_eq {a b : Int} (hb : b ≠ 0) (hr : Int.tmod a b ≠ 0) : (decide (Int.tmod a b < 0) == decide (a < 0)) = true := by
  by_cases ha : a < 0
  · have := (tmod_neg (b := b) (by omega : a ≤ 0) hb).1
    rw [decide_eq_true ha, decide_eq_true (by omega : Int.tmod a b < 0)]; rfl
  · have := (tmod_pos (b := b) (by omega : 0 ≤ a) hb).1
    rw [decide_eq_false ha, decide_eq_false (by omega : ¬ Int.tmod a b < 0)]; rfl
theorem EvalQuotients : interleavelaw05_EvalQuotients.Pure := by
  intro a b ha hb
  have ha := bd ha
  have hb := bd hb
  refine ⟨2, ?_⟩
  by_cases h0 : b = 0
  · subst h0
    simp [interleavelaw05_EvalQuotients.f, interleavelaw05_EvalQuotients.j0, eval_Binary.f, eval_Binary.j0, eval_divide.f]
  unfold interleavelaw05_EvalQuotients.f
  rw [bin9 1 a b h0, bin10 1 a b h0]
  simp only [Option.bind_some, if_true, Bool.not_true]
  have hid : wrap64 (wrap64 (wrap64 (Int.tdiv a b) * b) + Int.tmod a b) = a := by
    rw [wrap_mul_l, wrap_add_l, Int.mul_comm, Int.mul_tdiv_add_tmod, wrap_self ha]
  have hs := @sign_eq a b h0
  have hn := fun h => @tmod_neg a b h h0
  have hp := fun h => @tmod_pos a b h h0
  obtain ⟨r, hr⟩ : ∃ r, Int.tmod a b = r := ⟨_, rfl⟩
  obtain ⟨q, hq⟩ : ∃ q, wrap64 (Int.tdiv a b) = q := ⟨_, rfl⟩
  rw [hr] at hid hs hn hp ⊢
  rw [hq] at hid ⊢
  have hlo : 0 < b → -b < r ∧ r < b := fun h => by
    by_cases ha' : a ≤ 0
    · have := hn ha'; have := this.2.1 h; omega
    · have := hp (by omega); have := this.2.1 h; omega
  have hhi : b < 0 → b < r ∧ r < -b := fun h => by
    by_cases ha' : a ≤ 0
    · have := hn ha'; have := this.2.2 h; omega
    · have := hp (by omega); have := this.2.2 h; omega
  have hend : (if r = 0 then some true else some (decide (r < 0) == decide (a < 0))) = some true := by
    by_cases h : r = 0
    · rw [if_pos h]
    · rw [if_neg h, hs h]
  rw [interleavelaw05_EvalQuotients.j0]
  rw [if_neg (by simp), if_neg h0, hid]
  simp only [if_true]
  by_cases hm : b = -9223372036854775808
  · rw [if_pos hm, if_pos (by omega), if_neg (by omega)]; exact hend
  · have e1 : wrap64 (-b) = -b := wrap_self (by omega)
    rw [if_neg hm, e1]
    by_cases hneg : b < 0
    · have := hhi hneg
      rw [if_neg (by omega), if_pos hneg, if_pos (by omega), if_pos (by omega), if_pos (by omega)]; exact hend
    · have := hlo (by omega)
      rw [if_pos (by omega), if_neg hneg, if_pos (by omega)]; exact hend

end Go.Proofs.Ytgoefoilghjfhaa.Pure
