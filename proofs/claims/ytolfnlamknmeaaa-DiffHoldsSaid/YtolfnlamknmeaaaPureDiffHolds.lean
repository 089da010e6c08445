/- which values satisfy constraints: the plain statement of DiffHolds, for every argument within the bounds of its row. -/
import Derived.Test.YtolfnlamknmeaaaMDiffHoldsx5
import Derived.OpenShut
namespace Go.Proofs.Ytolfnlamknmeaaa.Pure
open Go.RowKit Go.Proofs.Ytolfnlamknmeaaa Go.Proofs.Ytolfnlamknmeaaa.MDiffHolds Go.Proofs.YtolfnlamknmeaaaW.PrintWords Go.Proofs.YtolfnlamknmeaaaW.PrintLast Go.Proofs.YtolfnlamknmeaaaW.PrintMore
set_option linter.unusedVariables false
set_option linter.unusedSimpArgs false

theorem w1 {i : Int} (h0 : -1 ≤ i) (h : i ≤ 35184372088832) : wrap64 (i + 1) = i + 1 := by unfold wrap64; omega
theorem wrap_self {x : Int} (h : -9223372036854775808 ≤ x ∧ x ≤ 9223372036854775807) : wrap64 x = x := by unfold wrap64; omega
theorem tmod_bd {a n : Int} (ha : 0 ≤ a) (hn : 0 < n) : 0 ≤ Int.tmod a n ∧ Int.tmod a n < n := by
  rw [Int.tmod_eq_emod_of_nonneg ha]
  exact ⟨Int.emod_nonneg a (by omega), Int.emod_lt_of_pos a hn⟩
theorem awake_ev : ∃ K, ∀ k, K ≤ k → interleavelaw32_awake.f k = some true :=
  Ev.of (g := fun k => interleavelaw32_awake.f k) interleavelaw32_awake.mono (k := 20) (by decide +kernel)
theorem rd36_get (l : List S36) (i : Nat) (hi : i < l.length) : rd_T36 l (i : Int) = l[i] := by
  unfold rd_T36; rw [Int.toNat_natCast, List.getD_eq_getElem?_getD, List.getElem?_eq_getElem hi]; rfl
theorem hold_l0 (l : List S36) (x : List Int) (hl : l.length ≤ 35184372088832) : ∀ (d k i : Nat), i + d = l.length → d < k →
    interleaveref31_HoldAll.l0 k x l (l.length : Int) (i : Int) = some (!((l.drop i).any (diff_Holds.bad x))) := by
  intro d
  induction d with
  | zero =>
    intro k i hi hk
    obtain ⟨k, rfl⟩ : ∃ m, k = m + 1 := ⟨k - 1, by omega⟩
    rw [interleaveref31_HoldAll.l0, if_neg (by omega), List.drop_of_length_le (by omega)]; rfl
  | succ d ih =>
    intro k i hi hk
    obtain ⟨k, rfl⟩ : ∃ m, k = m + 1 := ⟨k - 1, by omega⟩
    have hlt : i < l.length := by omega
    have hih := ih k (i + 1) (by omega) (by omega)
    rw [show ((i + 1 : Nat) : Int) = (i : Int) + 1 from by omega] at hih
    rw [interleaveref31_HoldAll.l0, if_pos (by omega), if_pos (by omega), if_pos (by omega), w1 (by omega) (by omega), hih, List.drop_eq_getElem_cons hlt, List.any_cons, ← rd36_get l i hlt]
    obtain ⟨d, hd⟩ : ∃ d, d = rd_T36 l (i : Int) := ⟨_, rfl⟩
    rw [← hd]
    unfold diff_Holds.bad
    by_cases c1 : d.f0 < 0
    · rw [if_pos c1, if_pos c1]; rfl
    rw [if_neg c1, if_neg c1]
    by_cases c3 : (x.length : Int) ≤ d.f0
    · rw [if_pos c3, if_pos c3]
      split <;> rfl
    rw [if_neg c3, if_neg c3]
    by_cases c2 : d.f1 < 0
    · rw [if_pos c2, if_pos c2]; rfl
    rw [if_neg c2, if_neg c2]
    by_cases c4 : (x.length : Int) ≤ d.f1
    · rw [if_pos c4, if_pos c4]; rfl
    rw [if_neg c4, if_neg c4, if_pos (by omega), if_pos (by omega), if_pos (by omega), if_pos (by omega)]
    by_cases c5 : wrap64 (rd x d.f0 - rd x d.f1) > d.f2
    · rw [if_pos c5, decide_eq_true c5]; rfl
    · rw [if_neg c5, decide_eq_false c5, Bool.false_or]
theorem hold_f (l : List S36) (x : List Int) (hl : l.length ≤ 35184372088832) (k : Nat) (hk : l.length < k) : interleaveref31_HoldAll.f k l x = diff_Holds.f l x := by
  unfold interleaveref31_HoldAll.f diff_Holds.f
  have h := hold_l0 l x hl l.length k 0 (by omega) hk
  rw [List.drop_zero] at h
  exact h
theorem DiffHolds : ∀ (l0 : List S36) (l1 : List Int), l0.length * 24 ≤ 140737488351232 → (∀ x ∈ l0, ((Lit.int .i64 x.f0).wf = true ∧ (Lit.int .i64 x.f1).wf = true ∧ (Lit.int .i64 x.f2).wf = true)) → l1.length * 8 ≤ 140737488351232 → (∀ x ∈ l1, (Lit.int .i64 x).wf = true) → ∃ k, interleavelaw32_DiffHolds.f k l0 l1 = some true := by
  intro l x _ _ _ _
  obtain ⟨Ka, hA⟩ := awake_ev
  have ha : ∀ k, Ka ≤ k → ((interleavelaw32_awake.f k).bind fun t => some t) = some true := fun k hk => by rw [hA k hk]; rfl
  refine ⟨Ka + 1000, ?_⟩
  unfold interleavelaw32_DiffHolds.f
  have hj : ∀ k, Ka ≤ k → interleavelaw32_DiffHolds.j0 (k + 1) l x true = some true := fun k hk => by
    rw [interleavelaw32_DiffHolds.j0, if_pos rfl, ha k hk]
  by_cases c1 : (l.length : Int) > 200
  · rw [if_pos c1]; exact hj _ (by omega)
  rw [if_neg c1]
  by_cases c2 : (x.length : Int) > 200
  · rw [decide_eq_true c2]; exact hj _ (by omega)
  rw [decide_eq_false c2, show Ka + 1000 = (Ka + 999) + 1 from rfl, interleavelaw32_DiffHolds.j0, if_neg Bool.false_ne_true]
  have h1 : ∀ (d k i : Nat), i + d = x.length → d + Ka + 300 < k → interleavelaw32_DiffHolds.l1 k l x x (x.length : Int) (i : Int) = some true := by
    intro d
    induction d with
    | zero =>
      intro k i hi hk
      obtain ⟨k, rfl⟩ : ∃ m, k = m + 1 := ⟨k - 1, by omega⟩
      rw [interleavelaw32_DiffHolds.l1, if_neg (by omega), hold_f l x (by omega) k (by omega)]
      unfold diff_Holds.f
      simp [hA k (by omega)]
    | succ d ih =>
      intro k i hi hk
      obtain ⟨k, rfl⟩ : ∃ m, k = m + 1 := ⟨k - 1, by omega⟩
      have hih := ih k (i + 1) (by omega) (by omega)
      rw [show ((i + 1 : Nat) : Int) = (i : Int) + 1 from by omega] at hih
      rw [interleavelaw32_DiffHolds.l1, if_pos (by omega), if_pos (by omega), if_pos (by omega), w1 (by omega) (by omega), hih, ha k (by omega)]
      split
      · rfl
      split <;> rfl
  have h0 : ∀ (d k i : Nat), i + d = l.length → d + Ka + 600 < k → interleavelaw32_DiffHolds.l0 k l x l (l.length : Int) (i : Int) = some true := by
    intro d
    induction d with
    | zero =>
      intro k i hi hk
      obtain ⟨k, rfl⟩ : ∃ m, k = m + 1 := ⟨k - 1, by omega⟩
      rw [interleavelaw32_DiffHolds.l0, if_neg (by omega)]
      exact h1 x.length k 0 (by omega) (by omega)
    | succ d ih =>
      intro k i hi hk
      obtain ⟨k, rfl⟩ : ∃ m, k = m + 1 := ⟨k - 1, by omega⟩
      have hih := ih k (i + 1) (by omega) (by omega)
      rw [show ((i + 1 : Nat) : Int) = (i : Int) + 1 from by omega] at hih
      rw [interleavelaw32_DiffHolds.l0, if_pos (by omega), if_pos (by omega), if_pos (by omega), w1 (by omega) (by omega), hih, ha k (by omega)]
      split
      · rfl
      split
      · rfl
      split
      · rfl
      split
      · rfl
      split <;> rfl
  exact h0 l.length (Ka + 999) 0 (by omega) (by omega)

end Go.Proofs.Ytolfnlamknmeaaa.Pure
