/- A ticked clock is greater and differs in one entry only, and what a clock covers every greater one covers: the plain statement of ClockGrows, for every argument within the bounds of its row. -/
import Derived.Test.YtdbpdhbabolooaaMClockGrowsx2
import Derived.OpenShut
namespace Go.Proofs.Ytdbpdhbabolooaa.Pure
open Go.RowKit Go.Proofs.Ytdbpdhbabolooaa.MClockGrows Go.Proofs.YtdbpdhbabolooaaW.PrintWords Go.Proofs.YtdbpdhbabolooaaW.PrintLast Go.Proofs.YtdbpdhbabolooaaW.PrintMore
set_option linter.unusedVariables false
set_option linter.unusedSimpArgs false

theorem w1 {i : Int} (h0 : -1 ≤ i) (h : i ≤ 35184372088832) : wrap64 (i + 1) = i + 1 := by unfold wrap64; omega
def at_ (l : List Int) (i : Int) : Int := if i < 0 then 0 else if i ≥ (l.length : Int) then 0 else rd l i
theorem at_some (l : List Int) (i : Int) : clock_At.f l i = some (at_ l i) := by
  unfold clock_At.f at_
  by_cases h : i < 0
  · rw [if_pos h, if_pos h]
  · rw [if_neg h, if_neg h]
    by_cases h2 : i ≥ (l.length : Int)
    · rw [if_pos h2, if_pos h2]
    · rw [if_neg h2, if_neg h2, if_pos (by omega), if_pos (by omega)]
theorem at_out {l : List Int} {i : Int} (h : i < 0 ∨ (l.length : Int) ≤ i) : at_ l i = 0 := by
  unfold at_
  by_cases h1 : i < 0
  · rw [if_pos h1]
  · rw [if_neg h1, if_pos (by omega)]
theorem at_in {l : List Int} {i : Int} (h : 0 ≤ i) (h2 : i < (l.length : Int)) : at_ l i = rd l i := by
  unfold at_
  rw [if_neg (by omega), if_neg (by omega)]
def Le (x y : List Int) : Prop := ∀ j : Int, at_ x j ≤ at_ y j
open Classical in
noncomputable def leB (x y : List Int) : Bool := decide (Le x y)
theorem leB_iff {x y : List Int} : leB x y = true ↔ Le x y := by unfold leB; exact @decide_eq_true_iff _ (Classical.propDecidable _)
theorem mx_le {a b : Int} : a ≤ mx a b ∧ b ≤ mx a b := by unfold mx; split <;> omega
theorem mx_len {x y : List Int} (hx : x.length * 8 ≤ 140737488351232) (hy : y.length * 8 ≤ 140737488351232) : 0 ≤ mx (x.length : Int) (y.length : Int) ∧ mx (x.length : Int) (y.length : Int) ≤ 17592186043904 := by
  unfold mx; split <;> omega
theorem leq_l0 (x y : List Int) (n : Int) (hn : n ≤ 17592186043904) : ∀ (d k : Nat) (i : Int), 0 ≤ i → n - i ≤ d → d < k →
    ∃ r, clock_Leq.l0 k x y n i = some r ∧ (r = true ↔ ∀ j : Int, i ≤ j → j < n → at_ x j ≤ at_ y j) := by
  intro d
  induction d with
  | zero =>
    intro k i h0 h1 hk
    obtain ⟨k, rfl⟩ : ∃ m, k = m + 1 := ⟨k - 1, by omega⟩
    refine ⟨true, ?_, by simp; intro j h1 h2; omega⟩
    simp only [clock_Leq.l0]; rw [if_neg (by omega)]
  | succ d ih =>
    intro k i h0 h1 hk
    obtain ⟨k, rfl⟩ : ∃ m, k = m + 1 := ⟨k - 1, by omega⟩
    simp only [clock_Leq.l0]
    by_cases hlt : i < n
    · rw [if_pos hlt, at_some, at_some]
      simp only [Option.bind_some]
      by_cases hg : at_ x i > at_ y i
      · rw [if_pos hg]
        refine ⟨false, rfl, ?_⟩
        simp only [Bool.false_eq_true, false_iff]
        intro h; have := h i (by omega) hlt; omega
      · rw [if_neg hg, w1 (by omega) (by omega)]
        obtain ⟨r, hr, hi⟩ := ih k (i + 1) (by omega) (by omega) (by omega)
        refine ⟨r, hr, hi.trans ⟨fun h j h1 h2 => ?_, fun h j h1 h2 => h j (by omega) h2⟩⟩
        by_cases e : j = i
        · subst e; omega
        · exact h j (by omega) h2
    · rw [if_neg hlt]
      exact ⟨true, rfl, by simp; intro j h1 h2; omega⟩
theorem leq_ev (x y : List Int) (hx : x.length * 8 ≤ 140737488351232) (hy : y.length * 8 ≤ 140737488351232) : ∃ K, ∀ k, K ≤ k → clock_Leq.f k x y = some (leB x y) := by
  have hm := mx_len hx hy
  obtain ⟨r, hr, hi⟩ := leq_l0 x y (mx x.length y.length) hm.2 (mx (x.length : Int) (y.length : Int)).toNat ((mx (x.length : Int) (y.length : Int)).toNat + 1) 0 (by omega) (by omega) (by omega)
  have e : r = leB x y := by
    rw [Bool.eq_iff_iff, hi, leB_iff]
    refine ⟨fun h j => ?_, fun h j _ _ => h j⟩
    by_cases hj : 0 ≤ j ∧ j < mx (x.length : Int) (y.length : Int)
    · exact h j hj.1 hj.2
    · have := @mx_le (x.length : Int) (y.length : Int)
      rw [at_out (by omega), at_out (by omega)]; omega
  subst e
  exact Ev.of (g := fun k => clock_Leq.f k x y) (clock_Leq.mono _ _) (k := (mx (x.length : Int) (y.length : Int)).toNat + 1) (by unfold clock_Leq.f; exact hr)
def IsJoin (x y r : List Int) : Prop := (r.length : Int) = mx (x.length : Int) (y.length : Int) ∧ ∀ j : Int, at_ r j = mx (at_ x j) (at_ y j)
theorem rd_set (l : List Int) (i j v : Int) (hi : 0 ≤ i) (hi2 : i < (l.length : Int)) (hj : 0 ≤ j) : rd (l.set i.toNat v) j = if j = i then v else rd l j := by
  unfold rd
  simp only [List.getD_eq_getElem?_getD, List.getElem?_set]
  by_cases e : j = i
  · subst e; simp; rw [if_pos (by omega)]; rfl
  · rw [if_neg (by omega), if_neg e]
theorem join_l0 (x y : List Int) (n : Int) (hn : n ≤ 17592186043904) : ∀ (d k : Nat) (i : Int) (z : List Int), 0 ≤ i → (z.length : Int) = n → n - i ≤ d → d < k → (∀ j : Int, 0 ≤ j → j < i → j < n → rd z j = mx (at_ x j) (at_ y j)) →
    ∃ r, clock_Join.l0 k x y z n i = some r ∧ (r.length : Int) = n ∧ (∀ j : Int, 0 ≤ j → j < n → rd r j = mx (at_ x j) (at_ y j)) := by
  intro d
  induction d with
  | zero =>
    intro k i z h0 hz h1 hk hI
    obtain ⟨k, rfl⟩ : ∃ m, k = m + 1 := ⟨k - 1, by omega⟩
    refine ⟨z, ?_, hz, fun j h1 h2 => hI j h1 (by omega) h2⟩
    simp only [clock_Join.l0]; rw [if_neg (by omega)]
  | succ d ih =>
    intro k i z h0 hz h1 hk hI
    obtain ⟨k, rfl⟩ : ∃ m, k = m + 1 := ⟨k - 1, by omega⟩
    simp only [clock_Join.l0]
    by_cases hlt : i < n
    · rw [if_pos hlt, at_some, at_some]
      simp only [Option.bind_some]
      rw [if_pos h0, if_pos (by omega), w1 (by omega) (by omega)]
      refine ih k (i + 1) _ (by omega) (by simpa using hz) (by omega) (by omega) (fun j h1 h2 h3 => ?_)
      rw [rd_set _ _ _ _ h0 (by omega) h1]
      by_cases e : j = i
      · rw [if_pos e, e]
      · rw [if_neg e]; exact hI j h1 (by omega) h3
    · rw [if_neg hlt]
      exact ⟨z, rfl, hz, fun j h1 h2 => hI j h1 (by omega) h2⟩
theorem join_ev (x y : List Int) (hx : x.length * 8 ≤ 140737488351232) (hy : y.length * 8 ≤ 140737488351232) : ∃ r, IsJoin x y r ∧ r.length * 8 ≤ 140737488351232 ∧ ∃ K, ∀ k, K ≤ k → clock_Join.f k x y = some r := by
  have hm := mx_len hx hy
  obtain ⟨r, hr, hl, hi⟩ := join_l0 x y (mx x.length y.length) hm.2 (mx (x.length : Int) (y.length : Int)).toNat ((mx (x.length : Int) (y.length : Int)).toNat + 1) 0 (List.replicate (mx (x.length : Int) (y.length : Int)).toNat 0) (by omega) (by simp; omega) (by omega) (by omega) (fun j h1 h2 _ => by omega)
  refine ⟨r, ⟨hl, fun j => ?_⟩, by omega, ?_⟩
  · by_cases hj : 0 ≤ j ∧ j < mx (x.length : Int) (y.length : Int)
    · rw [at_in hj.1 (by omega)]; exact hi j hj.1 hj.2
    · have := @mx_le (x.length : Int) (y.length : Int)
      rw [at_out (by omega), at_out (by omega), at_out (by omega)]; rfl
  · refine Ev.of (g := fun k => clock_Join.f k x y) (clock_Join.mono _ _) (k := (mx (x.length : Int) (y.length : Int)).toNat + 1) ?_
    unfold clock_Join.f
    rw [if_pos hm.1, if_pos (by omega)]
    simp only [Option.bind_some, List.length_replicate]
    rw [show (((mx (x.length : Int) (y.length : Int)).toNat : Nat) : Int) = mx (x.length : Int) (y.length : Int) from by omega]
    exact hr
theorem awake_ev : ∃ K, ∀ k, K ≤ k → interleavelaw22_awake.f k = some true :=
  Ev.of (g := fun k => interleavelaw22_awake.f k) interleavelaw22_awake.mono (k := 10) (by decide +kernel)
theorem long_no {l : List Int} (h : ¬ (l.length : Int) > 60) : interleavelaw22_long.f l = some false := by unfold interleavelaw22_long.f; rw [decide_eq_false h]
theorem long_yes {l : List Int} (h : (l.length : Int) > 60) : interleavelaw22_long.f l = some true := by unfold interleavelaw22_long.f; rw [decide_eq_true h]
theorem rat_some (l : List Int) (i : Int) : interleaveref22_At.f l i = some (at_ l i) := at_some l i
theorem cov_some (l : List Int) (n i : Int) : clock_Covers.f l n i = some (decide (n ≤ at_ l i)) := by unfold clock_Covers.f; rw [at_some]; rfl
theorem at_wf {c : List Int} (hw : ∀ x ∈ c, (Lit.int .i64 x).wf = true) (j : Int) : -9223372036854775808 ≤ at_ c j ∧ at_ c j ≤ 9223372036854775807 := by
  by_cases h : 0 ≤ j ∧ j < (c.length : Int)
  · rw [at_in h.1 h.2]
    unfold rd
    rw [List.getD_eq_getElem?_getD, List.getElem?_eq_getElem (by omega : j.toNat < c.length)]
    exact bounds_i64 (hw _ (List.getElem_mem _))
  · rw [at_out (by omega)]; omega
theorem at_grow (c : List Int) (t : Int) (j : Int) : at_ (clock_Tick.grow c t) j = at_ c j := by
  by_cases h0 : j < 0
  · rw [at_out (.inl h0), at_out (.inl h0)]
  by_cases h1 : j < (c.length : Int)
  · have hl : (c.length : Int) ≤ ((clock_Tick.grow c t).length : Int) := by unfold clock_Tick.grow; rw [List.length_append]; omega
    rw [at_in (by omega) (by omega), at_in (by omega) h1]
    unfold rd clock_Tick.grow
    rw [List.getD_eq_getElem?_getD, List.getD_eq_getElem?_getD, List.getElem?_append_left (by omega)]
  · rw [at_out (l := c) (.inr (by omega))]
    by_cases h2 : j < ((clock_Tick.grow c t).length : Int)
    · rw [at_in (by omega) h2]
      unfold rd clock_Tick.grow
      rw [List.getD_eq_getElem?_getD, List.getElem?_append_right (by omega), List.getElem?_replicate]
      split <;> rfl
    · rw [at_out (.inr (by omega))]
theorem at_set (l : List Int) (t v j : Int) (h0 : 0 ≤ t) (h1 : t < (l.length : Int)) : at_ (l.set t.toNat v) j = if j = t then v else at_ l j := by
  by_cases hj : 0 ≤ j ∧ j < (l.length : Int)
  · rw [at_in hj.1 (by simpa using hj.2), rd_set _ _ _ _ h0 h1 hj.1]
    by_cases e : j = t
    · rw [if_pos e, if_pos e]
    · rw [if_neg e, if_neg e, at_in hj.1 hj.2]
  · rw [at_out (by simp; omega), if_neg (by omega), at_out (by omega)]
theorem tick_some (c : List Int) (t : Int) (hc : c.length ≤ 17592186043904) (h0 : 0 ≤ t) (h4 : t < 4) (hw : ∀ x ∈ c, (Lit.int .i64 x).wf = true) (hm : at_ c t ≠ 9223372036854775807) :
    ∃ d, clock_Tick.f c t = some d ∧ (d.length : Int) = mx (c.length : Int) (t + 1) ∧ ∀ j, at_ d j = if j = t then at_ c t + 1 else at_ c j := by
  have hl := clock_Tick.grow_len c t h0
  have hlt : t < ((clock_Tick.grow c t).length : Int) := by rw [hl]; unfold mx; split <;> omega
  have hb := at_wf hw t
  have hr : rd (clock_Tick.grow c t) t = at_ c t := by rw [← at_in h0 hlt, at_grow]
  refine ⟨(clock_Tick.grow c t).set t.toNat (at_ c t + 1), ?_, by rw [List.length_set]; exact hl, fun j => ?_⟩
  · unfold clock_Tick.f
    rw [if_pos hc, if_neg (by omega), hr, if_pos (by omega), show wrap64 (at_ c t + 1) = at_ c t + 1 from by unfold wrap64; omega]
  · rw [at_set _ _ _ _ h0 hlt, at_grow]
theorem grows_l0 (c d : List Int) (t : Int) (hd : d.length * 8 ≤ 140737488351332) (hi : ∀ j, at_ d j = if j = t then at_ c t + 1 else at_ c j) (Ka : Nat) (hA : ∀ k, Ka ≤ k → interleavelaw22_awake.f k = some true) : ∀ (e k : Nat) (i : Int), 0 ≤ i → (d.length : Int) - i ≤ e → e + Ka < k →
    interleavelaw22_ClockGrows.l0 k c t d i = some true := by
  intro e
  induction e with
  | zero =>
    intro k i h0 h1 hk
    obtain ⟨k, rfl⟩ : ∃ m, k = m + 1 := ⟨k - 1, by omega⟩
    simp only [interleavelaw22_ClockGrows.l0]; rw [if_neg (by omega)]; simp [hA k (by omega)]
  | succ e ih =>
    intro k i h0 h1 hk
    obtain ⟨k, rfl⟩ : ∃ m, k = m + 1 := ⟨k - 1, by omega⟩
    simp only [interleavelaw22_ClockGrows.l0]
    by_cases hlt : i < (d.length : Int)
    · rw [if_pos hlt, w1 (by omega) (by omega), ih k (i + 1) (by omega) (by omega) (by omega)]
      by_cases ht : i = t
      · rw [if_pos ht]
      · rw [if_neg ht, at_some, at_some]
        simp only [Option.bind_some]
        rw [hi i, if_neg ht, if_pos rfl]
    · rw [if_neg hlt]; simp [hA k (by omega)]
theorem ClockGrows : interleavelaw22_ClockGrows.Pure := by
  intro c t a b _ hc hw ht ha hb
  obtain ⟨Ka, hA⟩ := awake_ev
  have hj : interleavelaw22_ClockGrows.j0 (Ka + 1) c t a b true = some true := by simp [interleavelaw22_ClockGrows.j0, hA Ka (Nat.le_refl _)]
  by_cases h1 : (c.length : Int) > 60
  · refine ⟨Ka + 1, ?_⟩
    unfold interleavelaw22_ClockGrows.f
    rw [long_yes h1]; simp [hj]
  by_cases h2 : t < 0
  · refine ⟨Ka + 1, ?_⟩
    unfold interleavelaw22_ClockGrows.f
    rw [long_no h1]; simp [hj, h2]
  by_cases h3 : t ≥ 4
  · refine ⟨Ka + 1, ?_⟩
    unfold interleavelaw22_ClockGrows.f
    rw [long_no h1]; simp [hj, h2, h3]
  by_cases h4 : at_ c t = 9223372036854775807
  · refine ⟨Ka + 1, ?_⟩
    unfold interleavelaw22_ClockGrows.f
    rw [long_no h1, rat_some]; simp [hj, h2, h3, h4]
  obtain ⟨d, hd, hl, hi⟩ := tick_some c t (by omega) (by omega) (by omega) hw h4
  have hm : mx (c.length : Int) (t + 1) ≤ 64 := by unfold mx; split <;> omega
  obtain ⟨K1, e1⟩ := leq_ev c d hc (by omega)
  obtain ⟨K2, e2⟩ := leq_ev d c (by omega) hc
  have t1 : leB c d = true := leB_iff.mpr (fun j => by
    rw [hi j]; by_cases e : j = t
    · rw [if_pos e, e]; omega
    · rw [if_neg e]; omega)
  have t2 : leB d c = false := by
    rw [← Bool.not_eq_true, leB_iff]
    intro h; have := h t; rw [hi t, if_pos rfl] at this; omega
  have hat : at_ d t = at_ c t + 1 := by rw [hi t, if_pos rfl]
  have hwt := at_wf hw t
  have hwr : wrap64 (at_ c t + 1) = at_ c t + 1 := by unfold wrap64; omega
  obtain ⟨S, hS⟩ : ∃ S, S = Ka + K1 + K2 + d.length + 1 := ⟨_, rfl⟩
  have hfin : interleavelaw22_ClockGrows.j1 (S + 1) c t d false = some true := by
    simp only [interleavelaw22_ClockGrows.j1, Bool.false_eq_true, if_false]
    exact grows_l0 c d t (by omega) hi Ka hA d.length S 0 (by omega) (by omega) (by omega)
  have hcov : a ≤ at_ c b → a ≤ at_ d b := fun h => by
    rw [hi b]; by_cases e : b = t
    · rw [if_pos e, ← e]; omega
    · rw [if_neg e]; exact h
  refine ⟨S + 2, ?_⟩
  unfold interleavelaw22_ClockGrows.f
  rw [long_no h1, rat_some]
  have h4' : (at_ c t == 9223372036854775807) = false := by simp [h4]
  simp only [Option.bind_some, Bool.false_eq_true, if_false, h4']
  rw [if_neg h2, if_neg h3]
  simp only [interleavelaw22_ClockGrows.j0, hd, e1 (S + 1) (by omega), e2 (S + 1) (by omega), t1, t2, cov_some, at_some, Option.bind_some, Bool.false_eq_true, if_false, if_true, hat, hwr, bne_self_eq_false, hfin]
  by_cases hcv : a ≤ at_ c b
  · rw [decide_eq_true hcv, if_pos rfl, decide_eq_true (hcov hcv), if_pos rfl]
  · rw [decide_eq_false hcv]; simp

end Go.Proofs.Ytdbpdhbabolooaa.Pure
