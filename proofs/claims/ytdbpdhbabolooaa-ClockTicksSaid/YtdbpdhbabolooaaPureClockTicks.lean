/- Tick answers as the reference does and changes nothing else: the plain statement of ClockTicks, for every argument within the bounds of its row. -/
import Derived.Test.YtdbpdhbabolooaaMClockTicksx2
import Derived.OpenShut
namespace Go.Proofs.Ytdbpdhbabolooaa.Pure
open Go.RowKit Go.Proofs.Ytdbpdhbabolooaa.MClockTicks Go.Proofs.YtdbpdhbabolooaaW.PrintWords Go.Proofs.YtdbpdhbabolooaaW.PrintLast Go.Proofs.YtdbpdhbabolooaaW.PrintMore
set_option linter.unusedVariables false
set_option linter.unusedSimpArgs false

theorem w1 {i : Int} (h0 : -1 ≤ i) (h : i ≤ 35184372088832) : wrap64 (i + 1) = i + 1 := by unfold wrap64; omega
def at_ (l : List Int) (i : Int) : Int := if i < 0 then 0 else if i ≥ (l.length : Int) then 0 else rd l i
theorem at_some (l : List Int) (i : Int) : clock_At.f l i = some (at_ l i) := by
  unfold clock_At.f at_
  by_cases h : i < 0
  · rw [if_pos h, if_pos h]
  · rw [if_neg h, if_neg h]
    by_cases h2 : i ≥ (l.length : Int)
    · rw [if_pos h2, if_pos h2]
    · rw [if_neg h2, if_neg h2, if_pos (by omega), if_pos (by omega)]
theorem at_out {l : List Int} {i : Int} (h : i < 0 ∨ (l.length : Int) ≤ i) : at_ l i = 0 := by
  unfold at_
  by_cases h1 : i < 0
  · rw [if_pos h1]
  · rw [if_neg h1, if_pos (by omega)]
theorem at_in {l : List Int} {i : Int} (h : 0 ≤ i) (h2 : i < (l.length : Int)) : at_ l i = rd l i := by
  unfold at_
  rw [if_neg (by omega), if_neg (by omega)]
def Le (x y : List Int) : Prop := ∀ j : Int, at_ x j ≤ at_ y j
open Classical in
noncomputable def leB (x y : List Int) : Bool := decide (Le x y)
theorem leB_iff {x y : List Int} : leB x y = true ↔ Le x y := by unfold leB; exact @decide_eq_true_iff _ (Classical.propDecidable _)
theorem mx_le {a b : Int} : a ≤ mx a b ∧ b ≤ mx a b := by unfold mx; split <;> omega
theorem mx_len {x y : List Int} (hx : x.length * 8 ≤ 140737488351232) (hy : y.length * 8 ≤ 140737488351232) : 0 ≤ mx (x.length : Int) (y.length : Int) ∧ mx (x.length : Int) (y.length : Int) ≤ 17592186043904 := by
  unfold mx; split <;> omega
theorem leq_l0 (x y : List Int) (n : Int) (hn : n ≤ 17592186043904) : ∀ (d k : Nat) (i : Int), 0 ≤ i → n - i ≤ d → d < k →
    ∃ r, clock_Leq.l0 k x y n i = some r ∧ (r = true ↔ ∀ j : Int, i ≤ j → j < n → at_ x j ≤ at_ y j) := by
  intro d
  induction d with
  | zero =>
    intro k i h0 h1 hk
    obtain ⟨k, rfl⟩ : ∃ m, k = m + 1 := ⟨k - 1, by omega⟩
    refine ⟨true, ?_, by simp; intro j h1 h2; omega⟩
    simp only [clock_Leq.l0]; rw [if_neg (by omega)]
  | succ d ih =>
    intro k i h0 h1 hk
    obtain ⟨k, rfl⟩ : ∃ m, k = m + 1 := ⟨k - 1, by omega⟩
    simp only [clock_Leq.l0]
    by_cases hlt : i < n
    · rw [if_pos hlt, at_some, at_some]
      simp only [Option.bind_some]
      by_cases hg : at_ x i > at_ y i
      · rw [if_pos hg]
        refine ⟨false, rfl, ?_⟩
        simp only [Bool.false_eq_true, false_iff]
        intro h; have := h i (by omega) hlt; omega
      · rw [if_neg hg, w1 (by omega) (by omega)]
        obtain ⟨r, hr, hi⟩ := ih k (i + 1) (by omega) (by omega) (by omega)
        refine ⟨r, hr, hi.trans ⟨fun h j h1 h2 => ?_, fun h j h1 h2 => h j (by omega) h2⟩⟩
        by_cases e : j = i
        · subst e; omega
        · exact h j (by omega) h2
    · rw [if_neg hlt]
      exact ⟨true, rfl, by simp; intro j h1 h2; omega⟩
theorem leq_ev (x y : List Int) (hx : x.length * 8 ≤ 140737488351232) (hy : y.length * 8 ≤ 140737488351232) : ∃ K, ∀ k, K ≤ k → clock_Leq.f k x y = some (leB x y) := by
  have hm := mx_len hx hy
  obtain ⟨r, hr, hi⟩ := leq_l0 x y (mx x.length y.length) hm.2 (mx (x.length : Int) (y.length : Int)).toNat ((mx (x.length : Int) (y.length : Int)).toNat + 1) 0 (by omega) (by omega) (by omega)
  have e : r = leB x y := by
    rw [Bool.eq_iff_iff, hi, leB_iff]
    refine ⟨fun h j => ?_, fun h j _ _ => h j⟩
    by_cases hj : 0 ≤ j ∧ j < mx (x.length : Int) (y.length : Int)
    · exact h j hj.1 hj.2
    · have := @mx_le (x.length : Int) (y.length : Int)
      rw [at_out (by omega), at_out (by omega)]; omega
  subst e
  exact Ev.of (g := fun k => clock_Leq.f k x y) (clock_Leq.mono _ _) (k := (mx (x.length : Int) (y.length : Int)).toNat + 1) (by unfold clock_Leq.f; exact hr)
def IsJoin (x y r : List Int) : Prop := (r.length : Int) = mx (x.length : Int) (y.length : Int) ∧ ∀ j : Int, at_ r j = mx (at_ x j) (at_ y j)
theorem rd_set (l : List Int) (i j v : Int) (hi : 0 ≤ i) (hi2 : i < (l.length : Int)) (hj : 0 ≤ j) : rd (l.set i.toNat v) j = if j = i then v else rd l j := by
  unfold rd
  simp only [List.getD_eq_getElem?_getD, List.getElem?_set]
  by_cases e : j = i
  · subst e; simp; rw [if_pos (by omega)]; rfl
  · rw [if_neg (by omega), if_neg e]
theorem join_l0 (x y : List Int) (n : Int) (hn : n ≤ 17592186043904) : ∀ (d k : Nat) (i : Int) (z : List Int), 0 ≤ i → (z.length : Int) = n → n - i ≤ d → d < k → (∀ j : Int, 0 ≤ j → j < i → j < n → rd z j = mx (at_ x j) (at_ y j)) →
    ∃ r, clock_Join.l0 k x y z n i = some r ∧ (r.length : Int) = n ∧ (∀ j : Int, 0 ≤ j → j < n → rd r j = mx (at_ x j) (at_ y j)) := by
  intro d
  induction d with
  | zero =>
    intro k i z h0 hz h1 hk hI
    obtain ⟨k, rfl⟩ : ∃ m, k = m + 1 := ⟨k - 1, by omega⟩
    refine ⟨z, ?_, hz, fun j h1 h2 => hI j h1 (by omega) h2⟩
    simp only [clock_Join.l0]; rw [if_neg (by omega)]
  | succ d ih =>
    intro k i z h0 hz h1 hk hI
    obtain ⟨k, rfl⟩ : ∃ m, k = m + 1 := ⟨k - 1, by omega⟩
    simp only [clock_Join.l0]
    by_cases hlt : i < n
    · rw [if_pos hlt, at_some, at_some]
      simp only [Option.bind_some]
      rw [if_pos h0, if_pos (by omega), w1 (by omega) (by omega)]
      refine ih k (i + 1) _ (by omega) (by simpa using hz) (by omega) (by omega) (fun j h1 h2 h3 => ?_)
      rw [rd_set _ _ _ _ h0 (by omega) h1]
      by_cases e : j = i
      · rw [if_pos e, e]
      · rw [if_neg e]; exact hI j h1 (by omega) h3
    · rw [if_neg hlt]
      exact ⟨z, rfl, hz, fun j h1 h2 => hI j h1 (by omega) h2⟩
theorem join_ev (x y : List Int) (hx : x.length * 8 ≤ 140737488351232) (hy : y.length * 8 ≤ 140737488351232) : ∃ r, IsJoin x y r ∧ r.length * 8 ≤ 140737488351232 ∧ ∃ K, ∀ k, K ≤ k → clock_Join.f k x y = some r := by
  have hm := mx_len hx hy
  obtain ⟨r, hr, hl, hi⟩ := join_l0 x y (mx x.length y.length) hm.2 (mx (x.length : Int) (y.length : Int)).toNat ((mx (x.length : Int) (y.length : Int)).toNat + 1) 0 (List.replicate (mx (x.length : Int) (y.length : Int)).toNat 0) (by omega) (by simp; omega) (by omega) (by omega) (fun j h1 h2 _ => by omega)
  refine ⟨r, ⟨hl, fun j => ?_⟩, by omega, ?_⟩
  · by_cases hj : 0 ≤ j ∧ j < mx (x.length : Int) (y.length : Int)
    · rw [at_in hj.1 (by omega)]; exact hi j hj.1 hj.2
    · have := @mx_le (x.length : Int) (y.length : Int)
      rw [at_out (by omega), at_out (by omega), at_out (by omega)]; rfl
  · refine Ev.of (g := fun k => clock_Join.f k x y) (clock_Join.mono _ _) (k := (mx (x.length : Int) (y.length : Int)).toNat + 1) ?_
    unfold clock_Join.f
    rw [if_pos hm.1, if_pos (by omega)]
    simp only [Option.bind_some, List.length_replicate]
    rw [show (((mx (x.length : Int) (y.length : Int)).toNat : Nat) : Int) = mx (x.length : Int) (y.length : Int) from by omega]
    exact hr
theorem awake_ev : ∃ K, ∀ k, K ≤ k → interleavelaw22_awake.f k = some true :=
  Ev.of (g := fun k => interleavelaw22_awake.f k) interleavelaw22_awake.mono (k := 10) (by decide +kernel)
theorem equal_l0 (x : List Int) (hx : x.length * 8 ≤ 140737488351232) : ∀ (d k : Nat) (i : Int), 0 ≤ i → (x.length : Int) - i ≤ d → d < k → interleaveref22_Equal.l0 k x x (x.length : Int) i = some true := by
  intro d
  induction d with
  | zero =>
    intro k i h0 h1 hk
    obtain ⟨k, rfl⟩ : ∃ m, k = m + 1 := ⟨k - 1, by omega⟩
    simp only [interleaveref22_Equal.l0]; rw [if_neg (by omega)]
  | succ d ih =>
    intro k i h0 h1 hk
    obtain ⟨k, rfl⟩ : ∃ m, k = m + 1 := ⟨k - 1, by omega⟩
    simp only [interleaveref22_Equal.l0]
    by_cases hlt : i < (x.length : Int)
    · rw [if_pos hlt, if_pos h0, if_pos hlt, if_pos hlt, w1 (by omega) (by omega), ih k (i + 1) (by omega) (by omega) (by omega)]
      simp
    · rw [if_neg hlt]
theorem equal_ev (x : List Int) (hx : x.length * 8 ≤ 140737488351232) (k : Nat) (hk : x.length < k) : interleaveref22_Equal.f k x x = some true := by
  unfold interleaveref22_Equal.f
  rw [if_pos rfl]
  exact equal_l0 x hx x.length k 0 (by omega) (by omega) hk
def fin (G : List Int) (u : Int) : List Int := if rd G u < 9223372036854775807 then G.set u.toNat (wrap64 (rd G u + 1)) else G
theorem rtick_l0 (u : Int) (h0 : 0 ≤ u) (h4 : u < 4) : ∀ (d k : Nat) (x : List Int), u + 1 - (x.length : Int) ≤ d → d < k →
    interleaveref22_Tick.l0 k x u = some (fin (x ++ List.replicate (u + 1 - (x.length : Int)).toNat 0) u) := by
  intro d
  induction d with
  | zero =>
    intro k x hd hk
    obtain ⟨k, rfl⟩ : ∃ m, k = m + 1 := ⟨k - 1, by omega⟩
    rw [interleaveref22_Tick.l0]
    rw [if_neg (by omega), if_pos h0, if_pos (by omega), show (u + 1 - (x.length : Int)).toNat = 0 from by omega]
    simp only [List.replicate_zero, List.append_nil]
    unfold fin
    split <;> rfl
  | succ d ih =>
    intro k x hd hk
    obtain ⟨k, rfl⟩ : ∃ m, k = m + 1 := ⟨k - 1, by omega⟩
    rw [interleaveref22_Tick.l0]
    by_cases hl : (x.length : Int) ≤ u
    · rw [if_pos hl, if_pos (by omega), ih k (x ++ [0]) (by simp; omega) (by omega)]
      congr 2
      rw [List.append_assoc, List.length_append, List.length_singleton]
      congr 1
      rw [show (u + 1 - (x.length : Int)).toNat = (u + 1 - ((x.length + 1 : Nat) : Int)).toNat + 1 from by omega, List.replicate_succ]
      rfl
    · rw [if_neg hl, if_pos h0, if_pos (by omega), show (u + 1 - (x.length : Int)).toNat = 0 from by omega]
      simp only [List.replicate_zero, List.append_nil]
      unfold fin
      split <;> rfl
theorem grow_eq (x : List Int) (u : Int) (h0 : 0 ≤ u) : clock_Tick.grow x u = x ++ List.replicate (u + 1 - (x.length : Int)).toNat 0 := by
  unfold clock_Tick.grow mx
  congr 2
  split <;> omega
theorem one_of (l : List Int) (hl : l.length ≤ 60) (u : Int) (k : Nat) (hk : 200 ≤ k) : interleavelaw22_ClockTicks.One k l u := by
  by_cases hu : u < 0 ∨ 4 ≤ u
  · refine ⟨l, l, ?_, ?_, equal_ev l (by omega) k (by omega), by omega⟩
    · unfold clock_Tick.f; rw [if_pos (by omega), if_pos hu]
    · unfold interleaveref22_Tick.f interleaveref22_Copy.f
      rw [if_pos (by omega)]
      simp only [Option.bind_some]
      obtain ⟨k, rfl⟩ : ∃ m, k = m + 1 := ⟨k - 1, by omega⟩
      have hj : interleaveref22_Tick.j0 (k + 1) l u true = some l := by simp [interleaveref22_Tick.j0]
      by_cases hn : u < 0
      · rw [if_pos hn, hj]
      · rw [if_neg hn, decide_eq_true (by omega), hj]
  · have h0 : 0 ≤ u := by omega
    have hlen : (fin (clock_Tick.grow l u) u).length = (clock_Tick.grow l u).length := by unfold fin; split <;> simp
    have hg : (clock_Tick.grow l u).length ≤ 64 := by
      have := clock_Tick.grow_len l u h0
      have h2 : mx (l.length : Int) (u + 1) ≤ 64 := by unfold mx; split <;> omega
      omega
    refine ⟨fin (clock_Tick.grow l u) u, fin (clock_Tick.grow l u) u, ?_, ?_, equal_ev _ (by omega) k (by omega), by omega⟩
    · unfold clock_Tick.f fin; rw [if_pos (by omega), if_neg hu]
      split <;> rfl
    · unfold interleaveref22_Tick.f interleaveref22_Copy.f
      rw [if_pos (by omega)]
      simp only [Option.bind_some]
      obtain ⟨k, rfl⟩ : ∃ m, k = m + 1 := ⟨k - 1, by omega⟩
      rw [if_neg (by omega), decide_eq_false (by omega)]
      simp only [interleaveref22_Tick.j0, Bool.false_eq_true, if_false]
      rw [rtick_l0 u h0 (by omega) 100 k l (by omega) (by omega), grow_eq l u h0]
theorem ClockTicks : interleavelaw22_ClockTicks.Pure := by
  intro a t _ ha _ _
  obtain ⟨Ka, hA⟩ := awake_ev
  refine ⟨Ka + 200 + a.length, ?_⟩
  unfold interleavelaw22_ClockTicks.f
  exact if_pos ⟨hA _ (by omega), fun hl => ⟨equal_ev a ha _ (by omega), fun u _ => one_of a hl u _ (by omega)⟩⟩

end Go.Proofs.Ytdbpdhbabolooaa.Pure
