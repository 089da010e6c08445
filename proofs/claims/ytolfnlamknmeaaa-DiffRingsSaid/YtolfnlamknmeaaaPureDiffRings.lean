/- Cycle answers as the reference does on rings of constraints: the plain statement of DiffRings, for every argument within the bounds of its row. -/
import Derived.Test.YtolfnlamknmeaaaMDiffRingsx5
import Derived.OpenShut
namespace Go.Proofs.Ytolfnlamknmeaaa.Pure
open Go.RowKit Go.Proofs.Ytolfnlamknmeaaa.MDiffRings Go.Proofs.YtolfnlamknmeaaaW.PrintWords Go.Proofs.YtolfnlamknmeaaaW.PrintLast Go.Proofs.YtolfnlamknmeaaaW.PrintMore
set_option linter.unusedVariables false
set_option linter.unusedSimpArgs false

theorem w1 {i : Int} (h0 : -1 ≤ i) (h : i ≤ 35184372088832) : wrap64 (i + 1) = i + 1 := by unfold wrap64; omega
theorem wrap_self {x : Int} (h : -9223372036854775808 ≤ x ∧ x ≤ 9223372036854775807) : wrap64 x = x := by unfold wrap64; omega
theorem tmod_bd {a n : Int} (ha : 0 ≤ a) (hn : 0 < n) : 0 ≤ Int.tmod a n ∧ Int.tmod a n < n := by
  rw [Int.tmod_eq_emod_of_nonneg ha]
  exact ⟨Int.emod_nonneg a (by omega), Int.emod_lt_of_pos a hn⟩
theorem awake_ev : ∃ K, ∀ k, K ≤ k → interleavelaw32_awake.f k = some true :=
  Ev.of (g := fun k => interleavelaw32_awake.f k) interleavelaw32_awake.mono (k := 20) (by decide +kernel)
theorem cyc_l0 (l : List S36) (c : List Int) (hc : c.length * 8 ≤ 140737488351332) (h0c : 0 < c.length) : ∀ (d k1 k2 : Nat) (i s : Int), 0 ≤ i → (c.length : Int) - i ≤ d → d < k1 → 2 * d + 1 < k2 →
    ∃ b, diff_Cycle.l0 k1 l c s c (c.length : Int) i = some b ∧ interleaveref31_Cycle.l0 k2 l c s c (c.length : Int) i = some b := by
  intro d
  induction d with
  | zero =>
    intro k1 k2 i s hi hd hk1 hk2
    obtain ⟨k1, rfl⟩ : ∃ m, k1 = m + 1 := ⟨k1 - 1, by omega⟩
    obtain ⟨k2, rfl⟩ : ∃ m, k2 = m + 1 := ⟨k2 - 1, by omega⟩
    refine ⟨decide (s < 0), ?_, ?_⟩
    · rw [diff_Cycle.l0, if_neg (by omega)]
    · rw [interleaveref31_Cycle.l0, if_neg (by omega), if_pos (by omega)]
  | succ d ih =>
    intro k1 k2 i s hi hd hk1 hk2
    obtain ⟨k1, rfl⟩ : ∃ m, k1 = m + 1 := ⟨k1 - 1, by omega⟩
    obtain ⟨k2, rfl⟩ : ∃ m, k2 = m + 2 := ⟨k2 - 2, by omega⟩
    rw [diff_Cycle.l0, interleaveref31_Cycle.l0]
    by_cases hlt : i < (c.length : Int)
    · rw [if_pos hlt, if_pos hi, if_pos hlt, if_neg (by omega), if_pos hlt, if_pos hi, if_pos hlt]
      have hw := w1 (i := i) (by omega) (by omega)
      have hnx := tmod_bd (a := i + 1) (n := (c.length : Int)) (by omega) (by omega)
      rw [hw]
      obtain ⟨nx, hn⟩ : ∃ nx, nx = Int.tmod (i + 1) (c.length : Int) := ⟨_, rfl⟩
      rw [← hn] at hnx ⊢
      rw [if_pos hnx.1, if_pos hnx.2]
      have hj : ∀ b, interleaveref31_Cycle.j1 (k2 + 1) l c s i (rd c i) c (c.length : Int) i b = if b = true then some false else if (rd c nx) < 0 then (some false) else (if (rd c nx) ≥ (l.length : Int) then (some false) else (if 0 ≤ rd c i then (if rd c i < (l.length : Int) then (if 0 ≤ (rd c nx) then (if (rd c nx) < (l.length : Int) then (if ((rd_T36 l (rd c i)).f1) = ((rd_T36 l (rd c nx)).f0) then (interleaveref31_Cycle.l0 k2 l c (wrap64 (s + ((rd_T36 l (rd c i)).f2))) c (c.length : Int) (i + 1)) else (some false)) else (none)) else (none)) else (none)) else (none))) := by
        intro b
        rw [interleaveref31_Cycle.j1, hw, ← hn, if_neg (by omega : ¬ (c.length : Int) = 0), if_pos hnx.1, if_pos hnx.2]
      rw [hj, hj]
      by_cases a1 : rd c i < 0
      · exact ⟨false, by rw [if_pos a1], by rw [if_pos a1, if_pos rfl]⟩
      rw [if_neg a1, if_neg a1]
      by_cases a2 : rd c i ≥ (l.length : Int)
      · exact ⟨false, by rw [if_pos a2], by rw [decide_eq_true a2, if_pos rfl]⟩
      rw [if_neg a2, decide_eq_false a2, if_neg Bool.false_ne_true]
      by_cases a3 : rd c nx < 0
      · exact ⟨false, by rw [if_pos a3], by rw [if_pos a3]⟩
      rw [if_neg a3, if_neg a3]
      by_cases a4 : rd c nx ≥ (l.length : Int)
      · exact ⟨false, by rw [if_pos a4], by rw [if_pos a4]⟩
      rw [if_neg a4, if_neg a4, if_pos (by omega : 0 ≤ rd c i), if_pos (by omega : rd c i < (l.length : Int)), if_pos (by omega : 0 ≤ rd c nx), if_pos (by omega : rd c nx < (l.length : Int)), if_pos (by omega : 0 ≤ rd c i), if_pos (by omega : rd c i < (l.length : Int)), if_pos (by omega : 0 ≤ rd c nx), if_pos (by omega : rd c nx < (l.length : Int))]
      by_cases a5 : (rd_T36 l (rd c i)).f1 = (rd_T36 l (rd c nx)).f0
      · rw [if_pos a5, if_pos a5]
        exact ih k1 k2 (i + 1) _ (by omega) (by omega) (by omega) (by omega)
      · exact ⟨false, by rw [if_neg a5], by rw [if_neg a5]⟩
    · refine ⟨decide (s < 0), ?_, ?_⟩
      · rw [if_neg hlt]
      · rw [if_neg hlt, if_pos (by omega)]
theorem cyc_f (l : List S36) (c : List Int) (hc : c.length * 8 ≤ 140737488351332) (k : Nat) (hk : 2 * c.length + 1 < k) : ∃ b, diff_Cycle.f k l c = some b ∧ interleaveref31_Cycle.f k l c = some b := by
  unfold diff_Cycle.f interleaveref31_Cycle.f
  by_cases h0 : 0 < c.length
  · exact cyc_l0 l c hc h0 c.length k k 0 0 (by omega) (by omega) (by omega) (by omega)
  · obtain ⟨k, rfl⟩ : ∃ m, k = m + 1 := ⟨k - 1, by omega⟩
    obtain rfl : c = [] := List.eq_nil_of_length_eq_zero (by omega)
    exact ⟨false, by simp [diff_Cycle.l0], by simp [interleaveref31_Cycle.l0]⟩
theorem rings_l0 (x0 : List Int) (x1 n : Int) (x2 : Bool) (hx1 : 0 ≤ x1 ∧ x1 ≤ 255) (hn : 2 ≤ n ∧ n ≤ 20) (hn0 : n ≤ (x0.length : Int)) (Ka : Nat) (hA : ∀ k, Ka ≤ k → interleavelaw32_awake.f k = some true) : ∀ (d k : Nat) (i : Int) (x8 : List S36) (x9 : List Int), 0 ≤ i → i ≤ n → (x8.length : Int) = i → (x9.length : Int) = i → n - i ≤ d → d + Ka + 100 < k →
    interleavelaw32_DiffRings.l0 k x0 x1 x2 n x8 x9 i = some true := by
  intro d
  induction d with
  | zero =>
    intro k i x8 x9 hi hin h8 h9 hd hk
    obtain ⟨k, rfl⟩ : ∃ m, k = m + 1 := ⟨k - 1, by omega⟩
    have e1 : wrap64 x1 = x1 := wrap_self (by omega)
    have b1 := tmod_bd (a := x1) (n := n) (by omega) (by omega)
    have b3 := tmod_bd (a := x1) (n := 3) (by omega) (by omega)
    rw [interleavelaw32_DiffRings.l0, if_neg (by omega)]
    cases x2 with
    | true =>
      rw [if_pos rfl, if_neg (by omega), e1]
      have e2 : wrap64 (Int.tmod x1 n + 1) = Int.tmod x1 n + 1 := w1 (by omega) (by omega)
      have b2 := tmod_bd (a := Int.tmod x1 n + 1) (n := n) (by omega) (by omega)
      rw [e2, if_pos b2.1, if_pos (by omega)]
      simp only [Option.bind_some, List.length_cons, List.length_nil]
      rw [if_pos b3.1, if_pos (by omega), if_pos b1.1, if_pos (by omega)]
      obtain ⟨b, hb1, hb2⟩ := cyc_f x8 (x9.set (Int.tmod x1 n).toNat (rd [n, -1, rd x9 (Int.tmod (Int.tmod x1 n + 1) n)] (Int.tmod x1 3))) (by rw [List.length_set]; omega) k (by rw [List.length_set]; omega)
      rw [hb1, hb2]
      simp [hA k (by omega)]
    | false =>
      rw [if_neg (by simp)]
      obtain ⟨b, hb1, hb2⟩ := cyc_f x8 x9 (by omega) k (by omega)
      rw [hb1, hb2]
      simp [hA k (by omega)]
  | succ d ih =>
    intro k i x8 x9 hi hin h8 h9 hd hk
    by_cases hlt : i < n
    · obtain ⟨k, rfl⟩ : ∃ m, k = m + 1 := ⟨k - 1, by omega⟩
      rw [interleavelaw32_DiffRings.l0, if_pos hlt, if_neg (by omega), if_pos hi, if_pos (by omega), if_pos (by omega), if_pos (by omega), w1 (by omega) (by omega)]
      exact ih k (i + 1) _ _ (by omega) (by omega) (by rw [List.length_append, List.length_singleton]; omega) (by rw [List.length_append, List.length_singleton]; omega) (by omega) (by omega)
    · have : n - i ≤ (0 : Nat) := by omega
      obtain rfl : i = n := by omega
      clear ih hd
      revert hk
      intro hk
      obtain ⟨k, rfl⟩ : ∃ m, k = m + 1 := ⟨k - 1, by omega⟩
      have e1 : wrap64 x1 = x1 := wrap_self (by omega)
      have b1 := tmod_bd (a := x1) (n := i) (by omega) (by omega)
      have b3 := tmod_bd (a := x1) (n := 3) (by omega) (by omega)
      rw [interleavelaw32_DiffRings.l0, if_neg (by omega)]
      cases x2 with
      | true =>
        rw [if_pos rfl, if_neg (by omega), e1]
        have e2 : wrap64 (Int.tmod x1 i + 1) = Int.tmod x1 i + 1 := w1 (by omega) (by omega)
        have b2 := tmod_bd (a := Int.tmod x1 i + 1) (n := i) (by omega) (by omega)
        rw [e2, if_pos b2.1, if_pos (by omega)]
        simp only [Option.bind_some, List.length_cons, List.length_nil]
        rw [if_pos b3.1, if_pos (by omega), if_pos b1.1, if_pos (by omega)]
        obtain ⟨b, hb1, hb2⟩ := cyc_f x8 (x9.set (Int.tmod x1 i).toNat (rd [i, -1, rd x9 (Int.tmod (Int.tmod x1 i + 1) i)] (Int.tmod x1 3))) (by rw [List.length_set]; omega) k (by rw [List.length_set]; omega)
        rw [hb1, hb2]
        simp [hA k (by omega)]
      | false =>
        rw [if_neg (by simp)]
        obtain ⟨b, hb1, hb2⟩ := cyc_f x8 x9 (by omega) k (by omega)
        rw [hb1, hb2]
        simp [hA k (by omega)]
theorem DiffRings : interleavelaw32_DiffRings.Pure := by
  intro x0 x1 x2 _ _ _ h1
  have hx1 : 0 ≤ x1 ∧ x1 ≤ 255 := bounds_u8 h1
  obtain ⟨Ka, hA⟩ := awake_ev
  refine ⟨Ka + 200, ?_⟩
  unfold interleavelaw32_DiffRings.f
  have hm : mn (x0.length : Int) 20 ≤ (x0.length : Int) ∧ mn (x0.length : Int) 20 ≤ 20 := by unfold mn; split <;> omega
  by_cases h2 : mn (x0.length : Int) 20 < 2
  · rw [if_pos h2]
    obtain ⟨b, hb1, hb2⟩ := cyc_f ([] : List S36) ([] : List Int) (by simp) (Ka + 200) (by simp)
    have hf : interleaveref31_Cycle.f (Ka + 200) ([] : List S36) ([] : List Int) = some false := by
      unfold interleaveref31_Cycle.f; rw [show Ka + 200 = (Ka + 199) + 1 from rfl, interleaveref31_Cycle.l0]; simp
    rw [hf] at hb2
    rw [hb1, ← Option.some.inj hb2]
    simp [hA (Ka + 200) (by omega)]
  · rw [if_neg h2]
    exact rings_l0 x0 x1 _ x2 hx1 (by omega) hm.1 Ka hA 20 _ 0 [] [] (by omega) (by omega) (by simp) (by simp) (by omega) (by omega)

end Go.Proofs.Ytolfnlamknmeaaa.Pure
