/- Cycle answers as the reference does: the plain statement of DiffCycles, for every argument within the bounds of its row. -/
import Derived.Test.YtolfnlamknmeaaaMDiffCyclesx5
import Derived.OpenShut
namespace Go.Proofs.Ytolfnlamknmeaaa.Pure
open Go.RowKit Go.Proofs.Ytolfnlamknmeaaa.MDiffCycles Go.Proofs.YtolfnlamknmeaaaW.PrintWords Go.Proofs.YtolfnlamknmeaaaW.PrintLast Go.Proofs.YtolfnlamknmeaaaW.PrintMore
set_option linter.unusedVariables false
set_option linter.unusedSimpArgs false

theorem w1 {i : Int} (h0 : -1 ≤ i) (h : i ≤ 35184372088832) : wrap64 (i + 1) = i + 1 := by unfold wrap64; omega
theorem wrap_self {x : Int} (h : -9223372036854775808 ≤ x ∧ x ≤ 9223372036854775807) : wrap64 x = x := by unfold wrap64; omega
theorem tmod_bd {a n : Int} (ha : 0 ≤ a) (hn : 0 < n) : 0 ≤ Int.tmod a n ∧ Int.tmod a n < n := by
  rw [Int.tmod_eq_emod_of_nonneg ha]
  exact ⟨Int.emod_nonneg a (by omega), Int.emod_lt_of_pos a hn⟩
theorem awake_ev : ∃ K, ∀ k, K ≤ k → interleavelaw32_awake.f k = some true :=
  Ev.of (g := fun k => interleavelaw32_awake.f k) interleavelaw32_awake.mono (k := 20) (by decide +kernel)
theorem cyc_l0 (l : List S36) (c : List Int) (hc : c.length * 8 ≤ 140737488351332) (h0c : 0 < c.length) : ∀ (d k1 k2 : Nat) (i s : Int), 0 ≤ i → (c.length : Int) - i ≤ d → d < k1 → 2 * d + 1 < k2 →
    ∃ b, diff_Cycle.l0 k1 l c s c (c.length : Int) i = some b ∧ interleaveref31_Cycle.l0 k2 l c s c (c.length : Int) i = some b := by
  intro d
  induction d with
  | zero =>
    intro k1 k2 i s hi hd hk1 hk2
    obtain ⟨k1, rfl⟩ : ∃ m, k1 = m + 1 := ⟨k1 - 1, by omega⟩
    obtain ⟨k2, rfl⟩ : ∃ m, k2 = m + 1 := ⟨k2 - 1, by omega⟩
    refine ⟨decide (s < 0), ?_, ?_⟩
    · rw [diff_Cycle.l0, if_neg (by omega)]
    · rw [interleaveref31_Cycle.l0, if_neg (by omega), if_pos (by omega)]
  | succ d ih =>
    intro k1 k2 i s hi hd hk1 hk2
    obtain ⟨k1, rfl⟩ : ∃ m, k1 = m + 1 := ⟨k1 - 1, by omega⟩
    obtain ⟨k2, rfl⟩ : ∃ m, k2 = m + 2 := ⟨k2 - 2, by omega⟩
    rw [diff_Cycle.l0, interleaveref31_Cycle.l0]
    by_cases hlt : i < (c.length : Int)
    · rw [if_pos hlt, if_pos hi, if_pos hlt, if_neg (by omega), if_pos hlt, if_pos hi, if_pos hlt]
      have hw := w1 (i := i) (by omega) (by omega)
      have hnx := tmod_bd (a := i + 1) (n := (c.length : Int)) (by omega) (by omega)
      rw [hw]
      obtain ⟨nx, hn⟩ : ∃ nx, nx = Int.tmod (i + 1) (c.length : Int) := ⟨_, rfl⟩
      rw [← hn] at hnx ⊢
      rw [if_pos hnx.1, if_pos hnx.2]
      have hj : ∀ b, interleaveref31_Cycle.j1 (k2 + 1) l c s i (rd c i) c (c.length : Int) i b = if b = true then some false else if (rd c nx) < 0 then (some false) else (if (rd c nx) ≥ (l.length : Int) then (some false) else (if 0 ≤ rd c i then (if rd c i < (l.length : Int) then (if 0 ≤ (rd c nx) then (if (rd c nx) < (l.length : Int) then (if ((rd_T36 l (rd c i)).f1) = ((rd_T36 l (rd c nx)).f0) then (interleaveref31_Cycle.l0 k2 l c (wrap64 (s + ((rd_T36 l (rd c i)).f2))) c (c.length : Int) (i + 1)) else (some false)) else (none)) else (none)) else (none)) else (none))) := by
        intro b
        rw [interleaveref31_Cycle.j1, hw, ← hn, if_neg (by omega : ¬ (c.length : Int) = 0), if_pos hnx.1, if_pos hnx.2]
      rw [hj, hj]
      by_cases a1 : rd c i < 0
      · exact ⟨false, by rw [if_pos a1], by rw [if_pos a1, if_pos rfl]⟩
      rw [if_neg a1, if_neg a1]
      by_cases a2 : rd c i ≥ (l.length : Int)
      · exact ⟨false, by rw [if_pos a2], by rw [decide_eq_true a2, if_pos rfl]⟩
      rw [if_neg a2, decide_eq_false a2, if_neg Bool.false_ne_true]
      by_cases a3 : rd c nx < 0
      · exact ⟨false, by rw [if_pos a3], by rw [if_pos a3]⟩
      rw [if_neg a3, if_neg a3]
      by_cases a4 : rd c nx ≥ (l.length : Int)
      · exact ⟨false, by rw [if_pos a4], by rw [if_pos a4]⟩
      rw [if_neg a4, if_neg a4, if_pos (by omega : 0 ≤ rd c i), if_pos (by omega : rd c i < (l.length : Int)), if_pos (by omega : 0 ≤ rd c nx), if_pos (by omega : rd c nx < (l.length : Int)), if_pos (by omega : 0 ≤ rd c i), if_pos (by omega : rd c i < (l.length : Int)), if_pos (by omega : 0 ≤ rd c nx), if_pos (by omega : rd c nx < (l.length : Int))]
      by_cases a5 : (rd_T36 l (rd c i)).f1 = (rd_T36 l (rd c nx)).f0
      · rw [if_pos a5, if_pos a5]
        exact ih k1 k2 (i + 1) _ (by omega) (by omega) (by omega) (by omega)
      · exact ⟨false, by rw [if_neg a5], by rw [if_neg a5]⟩
    · refine ⟨decide (s < 0), ?_, ?_⟩
      · rw [if_neg hlt]
      · rw [if_neg hlt, if_pos (by omega)]
theorem cyc_f (l : List S36) (c : List Int) (hc : c.length * 8 ≤ 140737488351332) (k : Nat) (hk : 2 * c.length + 1 < k) : ∃ b, diff_Cycle.f k l c = some b ∧ interleaveref31_Cycle.f k l c = some b := by
  unfold diff_Cycle.f interleaveref31_Cycle.f
  by_cases h0 : 0 < c.length
  · exact cyc_l0 l c hc h0 c.length k k 0 0 (by omega) (by omega) (by omega) (by omega)
  · obtain ⟨k, rfl⟩ : ∃ m, k = m + 1 := ⟨k - 1, by omega⟩
    obtain rfl : c = [] := List.eq_nil_of_length_eq_zero (by omega)
    exact ⟨false, by simp [diff_Cycle.l0], by simp [interleaveref31_Cycle.l0]⟩
theorem cycles_l0 (l : List S36) (c : List Int) (hl : l.length * 24 ≤ 140737488351232) (hc : c.length * 8 ≤ 140737488351232) (Ka : Nat) (hA : ∀ k, Ka ≤ k → interleavelaw32_awake.f k = some true) : ∀ (d k : Nat) (i : Int), 0 ≤ i → (l.length : Int) - i ≤ d → d + Ka + 2 * c.length + 4 < k →
    interleavelaw32_DiffCycles.l0 k l c l (l.length : Int) i = some true := by
  intro d
  induction d with
  | zero =>
    intro k i hi hd hk
    obtain ⟨k, rfl⟩ : ∃ m, k = m + 1 := ⟨k - 1, by omega⟩
    rw [interleavelaw32_DiffCycles.l0, if_neg (by omega)]
    obtain ⟨b, hb1, hb2⟩ := cyc_f l c (by omega) k (by omega)
    rw [hb1, hb2]
    simp [hA k (by omega)]
  | succ d ih =>
    intro k i hi hd hk
    obtain ⟨k, rfl⟩ : ∃ m, k = m + 1 := ⟨k - 1, by omega⟩
    rw [interleavelaw32_DiffCycles.l0]
    by_cases hlt : i < (l.length : Int)
    · have ha : ((interleavelaw32_awake.f k).bind fun t => some t) = some true := by rw [hA k (by omega)]; rfl
      rw [if_pos hlt, if_pos hi, if_pos hlt, ha, w1 (by omega) (by omega), ih k (i + 1) (by omega) (by omega) (by omega)]
      simp
    · rw [if_neg hlt]
      obtain ⟨b, hb1, hb2⟩ := cyc_f l c (by omega) k (by omega)
      rw [hb1, hb2]
      simp [hA k (by omega)]
theorem DiffCycles : ∀ (l0 : List S36) (l1 : List Int), l0.length * 24 ≤ 140737488351232 → (∀ x ∈ l0, ((Lit.int .i64 x.f0).wf = true ∧ (Lit.int .i64 x.f1).wf = true ∧ (Lit.int .i64 x.f2).wf = true)) → l1.length * 8 ≤ 140737488351232 → (∀ x ∈ l1, (Lit.int .i64 x).wf = true) → ∃ k, interleavelaw32_DiffCycles.f k l0 l1 = some true := by
  intro l c hl _ hc _
  obtain ⟨Ka, hA⟩ := awake_ev
  have hj : ∀ k, Ka ≤ k → interleavelaw32_DiffCycles.j0 (k + 1) l c true = some true := fun k hk => by rw [interleavelaw32_DiffCycles.j0, if_pos rfl, hA k hk]; rfl
  refine ⟨Ka + l.length + 2 * c.length + 10, ?_⟩
  unfold interleavelaw32_DiffCycles.f
  by_cases h1 : (l.length : Int) > 200
  · rw [if_pos h1, hj _ (by omega)]
  rw [if_neg h1]
  by_cases h2 : (c.length : Int) > 200
  · rw [decide_eq_true h2, hj _ (by omega)]
  · rw [decide_eq_false h2, interleavelaw32_DiffCycles.j0, if_neg Bool.false_ne_true]
    exact cycles_l0 l c hl hc Ka hA l.length _ 0 (by omega) (by omega) (by omega)

end Go.Proofs.Ytolfnlamknmeaaa.Pure
