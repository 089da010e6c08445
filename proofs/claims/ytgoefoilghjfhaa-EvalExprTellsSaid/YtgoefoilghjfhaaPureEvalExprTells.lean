/- Expr returns the specified value of every expression: the plain statement of EvalExprTells, for every argument within the bounds of its row. -/
import Derived.Test.YtgoefoilghjfhaaMEvalExprTellsx
import Derived.OpenShut
namespace Go.Proofs.Ytgoefoilghjfhaa.Pure
open Go.RowKit Go.Proofs.Ytgoefoilghjfhaa Go.Proofs.Ytgoefoilghjfhaa.MEvalExprTells Go.Proofs.YtgoefoilghjfhaaW.PrintWords Go.Proofs.YtgoefoilghjfhaaW.PrintLast Go.Proofs.YtgoefoilghjfhaaW.PrintMore
set_option linter.unusedVariables false
set_option linter.unusedSimpArgs false

theorem bd {x : Int} (h : (Lit.int .i64 x).wf = true) : -9223372036854775808 ≤ x ∧ x ≤ 9223372036854775807 := bounds_i64 h
theorem wrap_self {x : Int} (h : -9223372036854775808 ≤ x ∧ x ≤ 9223372036854775807) : wrap64 x = x := by unfold wrap64; omega
theorem wrap_add_mul (x k : Int) : wrap64 (x + 18446744073709551616 * k) = wrap64 x := by unfold wrap64; omega
theorem wrap_form (x : Int) : ∃ k, wrap64 x = x + 18446744073709551616 * k :=
  ⟨-((x + 9223372036854775808) / 18446744073709551616), by unfold wrap64; omega⟩
theorem wrap_mul_l (x y : Int) : wrap64 (wrap64 x * y) = wrap64 (x * y) := by
  obtain ⟨k, hk⟩ := wrap_form x
  rw [hk, Int.add_mul, Int.mul_assoc, wrap_add_mul]
theorem wrap_add_l (x y : Int) : wrap64 (wrap64 x + y) = wrap64 (x + y) := by
  obtain ⟨k, hk⟩ := wrap_form x
  rw [hk, show x + 18446744073709551616 * k + y = x + y + 18446744073709551616 * k from by omega, wrap_add_mul]
theorem wrap_add_r (x y : Int) : wrap64 (x + wrap64 y) = wrap64 (x + y) := by
  rw [Int.add_comm, wrap_add_l, Int.add_comm]
theorem emod_bd (a b : Int) (hb : b ≠ 0) : 0 ≤ a % b ∧ (0 < b → a % b < b) ∧ (b < 0 → a % b < -b) := by
  refine ⟨Int.emod_nonneg a hb, fun h => Int.emod_lt_of_pos a h, fun h => ?_⟩
  have := Int.emod_lt_of_pos a (b := -b) (by omega)
  rwa [Int.emod_neg] at this
theorem tmod_pos {a b : Int} (ha : 0 ≤ a) (hb : b ≠ 0) : 0 ≤ Int.tmod a b ∧ (0 < b → Int.tmod a b < b) ∧ (b < 0 → Int.tmod a b < -b) := by
  rw [Int.tmod_eq_emod_of_nonneg ha]; exact emod_bd a b hb
theorem tmod_neg {a b : Int} (ha : a ≤ 0) (hb : b ≠ 0) : Int.tmod a b ≤ 0 ∧ (0 < b → -b < Int.tmod a b) ∧ (b < 0 → b < Int.tmod a b) := by
  have e : Int.tmod a b = -((-a) % b) := by
    rw [← Int.tmod_eq_emod_of_nonneg (by omega), Int.neg_tmod, Int.neg_neg]
  have h := emod_bd (-a) b hb
  rw [e]
  exact ⟨by omega, fun h' => by have := h.2.1 h'; omega, fun h' => by have := h.2.2 h'; omega⟩
theorem truth_some (b : Bool) : eval_truth.f b = some (if b = true then 1 else 0) := by unfold eval_truth.f; split <;> rfl
def opv (op : Int) : Int := if op = 1 ∨ op = 2 then 0 else if op = 4 ∨ op = 5 then 1 else if 6 ≤ op ∧ op ≤ 18 then 2 else -1
theorem operands_f (op : Int) (k : Nat) (hk : 2 ≤ k) : eval_operands.f k op = some (opv op) := by
  obtain ⟨k, rfl⟩ : ∃ m, k = m + 2 := ⟨k - 2, by omega⟩
  by_cases h1 : op = 1
  · subst h1; simp [eval_operands.f, eval_operands.j0, opv]
  by_cases h2 : op = 2
  · subst h2; simp [eval_operands.f, eval_operands.j0, opv]
  by_cases h4 : op = 4
  · subst h4; simp [eval_operands.f, eval_operands.j0, eval_operands.j1, opv]
  by_cases h5 : op = 5
  · subst h5; simp [eval_operands.f, eval_operands.j0, eval_operands.j1, opv]
  by_cases h6 : 6 ≤ op
  · by_cases h18 : op ≤ 18
    · simp [eval_operands.f, eval_operands.j0, eval_operands.j1, opv, h1, h2, h4, h5, h6, h18]
    · simp [eval_operands.f, eval_operands.j0, eval_operands.j1, opv, h1, h2, h4, h5, h6, h18]
  · simp [eval_operands.f, eval_operands.j0, eval_operands.j1, opv, h1, h2, h4, h5, h6]
theorem w1e {i : Int} (h0 : -1 ≤ i) (h : i ≤ 35184372088832) : wrap64 (i + 1) = i + 1 := by unfold wrap64; omega
/-- The first index of a name, as the library and the reference find it. -/
theorem idx (names : List ByteArray) (nm : ByteArray) (hn : names.length ≤ 1000) : ∀ (d i : Nat), i + d = names.length → ∃ r : Int, (r = -1 ∨ (0 ≤ r ∧ r < names.length)) ∧ (∀ k, d < k → slices_Index_string_string.l0 k names nm (names.length : Int) (i : Int) = some r) ∧
    (∀ k, d < k → ∀ (vals : List Int) (op n : Int) (l : List S36), interleaveref05_Expr.l0 k names vals (i : Int) op n nm l = if r = -1 ∨ r ≥ (vals.length : Int) then some (0, false) else some (rd vals r, true)) := by
  intro d
  induction d with
  | zero =>
    intro i hi
    refine ⟨-1, .inl rfl, fun k hk => ?_, fun k hk vals op n l => ?_⟩
    · obtain ⟨k, rfl⟩ : ∃ m, k = m + 1 := ⟨k - 1, by omega⟩
      rw [slices_Index_string_string.l0, if_neg (by omega)]
    · obtain ⟨k, rfl⟩ : ∃ m, k = m + 1 := ⟨k - 1, by omega⟩
      rw [interleaveref05_Expr.l0, if_neg (by omega), if_pos (.inl rfl)]
  | succ d ih =>
    intro i hi
    by_cases he : (rdOf ByteArray.empty names (i : Int)).toList = nm.toList
    · refine ⟨(i : Int), .inr ⟨by omega, by omega⟩, fun k hk => ?_, fun k hk vals op n l => ?_⟩
      · obtain ⟨k, rfl⟩ : ∃ m, k = m + 1 := ⟨k - 1, by omega⟩
        rw [slices_Index_string_string.l0, if_pos (by omega), if_pos (by omega), if_pos (by omega), if_pos he.symm]
      · obtain ⟨k, rfl⟩ : ∃ m, k = m + 1 := ⟨k - 1, by omega⟩
        rw [interleaveref05_Expr.l0, if_pos (by omega), if_pos (by omega), if_pos he]
        by_cases hv : (i : Int) ≥ (vals.length : Int)
        · rw [if_pos hv, if_pos (.inr hv)]
        · rw [if_neg hv, if_pos (by omega), if_neg (by omega)]
    · obtain ⟨r, h1, h2, h3⟩ := ih (i + 1) (by omega)
      refine ⟨r, h1, fun k hk => ?_, fun k hk vals op n l => ?_⟩
      · obtain ⟨k, rfl⟩ : ∃ m, k = m + 1 := ⟨k - 1, by omega⟩
        rw [slices_Index_string_string.l0, if_pos (by omega), if_pos (by omega), if_pos (by omega), if_neg (fun e => he e.symm), w1e (by omega) (by omega)]
        exact h2 k (by omega)
      · obtain ⟨k, rfl⟩ : ∃ m, k = m + 1 := ⟨k - 1, by omega⟩
        rw [interleaveref05_Expr.l0, if_pos (by omega), if_pos (by omega), if_neg he, w1e (by omega) (by omega)]
        exact h3 k (by omega) vals op n l
theorem index_f (names : List ByteArray) (nm : ByteArray) (hn : names.length ≤ 1000) : ∃ r : Int, (r = -1 ∨ (0 ≤ r ∧ r < names.length)) ∧ (∀ k, names.length < k → slices_Index_string_string.f k names nm = some r) ∧
    (∀ k, names.length < k → ∀ (vals : List Int) (op n : Int) (l : List S36), interleaveref05_Expr.l0 k names vals 0 op n nm l = if r = -1 ∨ r ≥ (vals.length : Int) then some (0, false) else some (rd vals r, true)) := by
  obtain ⟨r, h1, h2, h3⟩ := idx names nm hn names.length 0 (by omega)
  exact ⟨r, h1, fun k hk => h2 k hk, fun k hk => h3 k hk⟩
theorem truth_ev (b : Bool) : ∃ r, eval_truth.f b = some r := by cases b <;> exact ⟨_, rfl⟩
theorem div_ev (a b c : Int) : ∃ r, eval_divide.f a b c = some r := by
  unfold eval_divide.f
  split
  · exact ⟨_, rfl⟩
  · split <;> exact ⟨_, rfl⟩
theorem bind_ev {α β : Type} {x : Option α} {f : α → Option β} (hx : ∃ r, x = some r) (hf : ∀ r, ∃ p, f r = some p) : ∃ p, x.bind f = some p := by
  obtain ⟨r, rfl⟩ := hx
  exact hf r
theorem bin_ev (op v0 v1 : Int) : ∃ p, ∀ k, 1 ≤ k → eval_Binary.f k op v0 v1 = some p := by
  have key : ∀ b, ∃ p, ∀ m, eval_Binary.j0 (m + 1) op v0 v1 op b = some p := by
    intro b
    obtain ⟨p, hp⟩ : ∃ p, eval_Binary.j0 1 op v0 v1 op b = some p := by
      rw [eval_Binary.j0]
      repeat' split
      all_goals first
        | exact bind_ev (div_ev _ _ _) (fun r => ⟨_, rfl⟩)
        | exact bind_ev (truth_ev _) (fun r => ⟨_, rfl⟩)
        | exact ⟨_, rfl⟩
    refine ⟨p, fun m => ?_⟩
    rw [eval_Binary.j0] at hp ⊢
    exact hp
  unfold eval_Binary.f
  by_cases h6 : op = 6
  · exact ⟨_, fun k _ => by rw [if_pos h6]⟩
  by_cases h7 : op = 7
  · exact ⟨_, fun k _ => by rw [if_neg h6, if_pos h7]⟩
  by_cases h8 : op = 8
  · exact ⟨_, fun k _ => by rw [if_neg h6, if_neg h7, if_pos h8]⟩
  by_cases h9 : op = 9
  · obtain ⟨p, hp⟩ := key (op == 9)
    refine ⟨p, fun k hk => ?_⟩
    obtain ⟨k, rfl⟩ : ∃ m, k = m + 1 := ⟨k - 1, by omega⟩
    rw [if_neg h6, if_neg h7, if_neg h8, if_pos h9, hp]
  · obtain ⟨p, hp⟩ := key (op == 10)
    refine ⟨p, fun k hk => ?_⟩
    obtain ⟨k, rfl⟩ : ∃ m, k = m + 1 := ⟨k - 1, by omega⟩
    rw [if_neg h6, if_neg h7, if_neg h8, if_neg h9, hp]
/-- The end of Expr at an operator: it does not ask the names. -/
theorem tl_ev (op v0 v1 : Int) (h1 : op ≠ 1) (h2 : op ≠ 2) : ∃ p, ∀ k, 1 ≤ k → ∀ (n : Int) (nm : ByteArray) (names : List ByteArray) (vals : List Int), eval_Expr.tl k op n nm names vals v0 v1 = some p := by
  by_cases h45 : op = 4 ∨ op = 5
  · obtain ⟨p, hp⟩ : ∃ p, eval_Unary.f op v0 = some p := by
      unfold eval_Unary.f
      rcases h45 with h | h
      · exact ⟨_, by rw [if_pos h]⟩
      · rw [if_neg (by omega), if_pos h]
        exact bind_ev (truth_ev _) (fun r => ⟨_, rfl⟩)
    exact ⟨p, fun k _ n nm names vals => by rw [eval_Expr.tl, if_neg h1, if_neg h2, if_pos h45, hp]⟩
  · obtain ⟨p, hp⟩ := bin_ev op v0 v1
    exact ⟨p, fun k hk n nm names vals => by rw [eval_Expr.tl, if_neg h1, if_neg h2, if_neg h45, hp k hk]⟩
abbrev evc (k : Nat) (l : List S36) (i : Int) (names : List ByteArray) (vals : List Int) : Option (Int × Bool) := eval_Expr.f k (rd_T36 l i).f0 (rd_T36 l i).f1 (rd_T36 l i).f2 (rd_T36 l i).f3 names vals
theorem ev_succ (k : Nat) (op n : Int) (nm : ByteArray) (l : List S36) (names : List ByteArray) (vals : List Int) (hk : 2 ≤ k) : eval_Expr.f (k + 1) op n nm l names vals = if (l.length : Int) ≠ opv op then some (0, false) else (if 0 < l.length then evc k l 0 names vals else some (0, true)).bind fun p0 => (if 1 < l.length then evc k l 1 names vals else some (0, true)).bind fun p1 => if p0.2 = false ∨ p1.2 = false then some (0, false) else eval_Expr.tl k op n nm names vals p0.1 p1.1 := by
  rw [eval_Expr.f, operands_f op k hk]; rfl
theorem rtruth_eq (b : Bool) : interleaveref05_truth.f b = eval_truth.f b := rfl
theorem bin_eq (k : Nat) (op a b : Int) : eval_Binary.f (k + 1) op a b = interleaveref05_Binary.f op a b := by
  unfold eval_Binary.f interleaveref05_Binary.f
  by_cases h6 : op = 6
  · rw [if_pos h6, if_pos h6]
  rw [if_neg h6, if_neg h6]
  by_cases h7 : op = 7
  · rw [if_pos h7, if_pos h7]
  rw [if_neg h7, if_neg h7]
  by_cases h8 : op = 8
  · rw [if_pos h8, if_pos h8]
  rw [if_neg h8, if_neg h8]
  by_cases h9 : op = 9
  · subst h9
    by_cases hb : b = 0 <;> simp [eval_Binary.j0, eval_divide.f, hb]
  rw [if_neg h9, if_neg h9]
  by_cases h10 : op = 10
  · subst h10
    by_cases hb : b = 0 <;> simp [eval_Binary.j0, eval_divide.f, hb]
  rw [if_neg h10]
  have e10 : (op == 10) = false := by simp [h10]
  rw [e10]
  simp only [eval_Binary.j0, Bool.false_eq_true, if_false, rtruth_eq]
theorem some_pair (o : Option (Int × Bool)) (h : o.isSome = true) : ∃ v t, o = some (v, t) := by
  cases o with
  | none => exact absurd h (by simp)
  | some p => exact ⟨p.1, p.2, rfl⟩
theorem is_ite {p : Prop} [Decidable p] {x y : Option (Int × Bool)} (h1 : x.isSome = true) (h2 : y.isSome = true) : (if p then x else y).isSome = true := by
  by_cases h : p
  · rw [if_pos h]; exact h1
  · rw [if_neg h]; exact h2
theorem bin_ref (op a b : Int) : ∃ v t, interleaveref05_Binary.f op a b = some (v, t) := by
  apply some_pair
  unfold interleaveref05_Binary.f
  simp only [rtruth_eq, truth_some, Option.bind_some]
  repeat' (first | exact rfl | refine is_ite ?_ ?_)
theorem un_ref (op a : Int) : ∃ v t, interleaveref05_Unary.f op a = some (v, t) := by
  apply some_pair
  unfold interleaveref05_Unary.f
  simp only [rtruth_eq, truth_some, Option.bind_some]
  repeat' (first | exact rfl | refine is_ite ?_ ?_)
theorem un_eq (op a : Int) : eval_Unary.f op a = interleaveref05_Unary.f op a := rfl
abbrev GT (op n : Int) (nm : ByteArray) (l : List S36) (N : List ByteArray) (V : List Int) : Prop := ∃ K a, ∀ k, K ≤ k → eval_Expr.f k op n nm l N V = some a ∧ interleaveref05_Expr.f k op n nm l N V = some a
abbrev refc (k : Nat) (l : List S36) (i : Int) (N : List ByteArray) (V : List Int) : Option (Int × Bool) := interleaveref05_Expr.f k (rd_T36 l i).f0 (rd_T36 l i).f1 (rd_T36 l i).f2 (rd_T36 l i).f3 N V
/-- The reference at an expression with operands. -/
theorem ref_ops (k : Nat) (op n : Int) (nm : ByteArray) (l : List S36) (N : List ByteArray) (V : List Int) (hl : l ≠ [] ∨ (op ≠ 1 ∧ op ≠ 2)) : interleaveref05_Expr.f (k + 3) op n nm l N V = interleaveref05_Expr.j1 (k + 1) N V false op n nm l := by
  have h0 : l = [] ∨ ((l.length : Int) == 0) = false := by
    by_cases h : l = []
    · exact .inl h
    · refine .inr ?_
      have : l.length ≠ 0 := fun e => h (List.eq_nil_of_length_eq_zero e)
      simp; exact h
  rw [interleaveref05_Expr.f]
  rcases h0 with h | h
  · have h12 : op ≠ 1 ∧ op ≠ 2 := by
      rcases hl with g | g
      · exact absurd h g
      · exact g
    rw [if_neg h12.1, interleaveref05_Expr.j0, if_neg Bool.false_ne_true, if_neg h12.2]
  · rw [h]
    by_cases h1 : op = 1
    · rw [if_pos h1, interleaveref05_Expr.j0, if_neg Bool.false_ne_true, if_neg (by omega)]
    · rw [if_neg h1, interleaveref05_Expr.j0, if_neg Bool.false_ne_true, h]
      by_cases h2 : op = 2
      · rw [if_pos h2]
      · rw [if_neg h2]
theorem ev_nil (k : Nat) (op n : Int) (nm : ByteArray) (N : List ByteArray) (V : List Int) (hk : 2 ≤ k) : eval_Expr.f (k + 1) op n nm [] N V = if (0 : Int) ≠ opv op then some (0, false) else eval_Expr.tl k op n nm N V 0 0 := by
  rw [ev_succ _ _ _ _ _ _ _ hk]; rfl
theorem tleaf (op n : Int) (nm : ByteArray) (N : List ByteArray) (V : List Int) (hn : N.length ≤ 1000) : GT op n nm [] N V := by
  by_cases h1 : op = 1
  · subst h1
    have hz : ¬ ((0 : Int) ≠ opv 1) := fun h => h rfl
    refine ⟨4, (n, true), fun k hk => ?_⟩
    obtain ⟨k, rfl⟩ : ∃ m, k = m + 2 := ⟨k - 2, by omega⟩
    exact ⟨by rw [ev_nil _ _ _ _ _ _ (by omega), if_neg hz, eval_Expr.tl, if_pos rfl], by rw [interleaveref05_Expr.f, if_pos rfl, interleaveref05_Expr.j0, if_pos (by simp)]⟩
  by_cases h2 : op = 2
  · subst h2
    have hz : ¬ ((0 : Int) ≠ opv 2) := fun h => h rfl
    obtain ⟨r, hr, h3, h4⟩ := index_f N nm hn
    refine ⟨N.length + 5, if r = -1 ∨ r ≥ (V.length : Int) then (0, false) else (rd V r, true), fun k hk => ?_⟩
    obtain ⟨k, rfl⟩ : ∃ m, k = m + 3 := ⟨k - 3, by omega⟩
    refine ⟨?_, ?_⟩
    · rw [ev_nil _ _ _ _ _ _ (by omega), if_neg hz, eval_Expr.tl, if_neg (by omega), if_pos rfl, h3 _ (by omega), Option.bind_some]
      by_cases hb : r < 0 ∨ (V.length : Int) ≤ r
      · rw [if_pos hb, if_pos (by omega)]
      · rw [if_neg hb, if_neg (by omega)]
    · rw [interleaveref05_Expr.f, if_neg (by omega), interleaveref05_Expr.j0, if_neg Bool.false_ne_true, if_pos rfl, interleaveref05_Expr.j1, if_pos (by simp)]
      rw [h4 k (by omega) V 2 n []]
      split <;> rfl
  · have hz : (0 : Int) ≠ opv op := by
      unfold opv
      rw [if_neg (by omega)]
      split
      · decide
      · split <;> decide
    refine ⟨4, (0, false), fun k hk => ?_⟩
    obtain ⟨k, rfl⟩ : ∃ m, k = m + 3 := ⟨k - 3, by omega⟩
    exact ⟨by rw [ev_nil _ _ _ _ _ _ (by omega), if_pos hz], by rw [ref_ops _ _ _ _ _ _ _ (.inr ⟨h1, h2⟩), interleaveref05_Expr.j1, if_neg Bool.false_ne_true, if_neg (by simp), if_neg (by simp)]⟩
theorem opv_le (op : Int) : opv op ≤ 2 := by
  unfold opv
  split
  · decide
  · split
    · decide
    · split <;> decide
theorem tone (op n : Int) (nm : ByteArray) (x : S36) (N : List ByteArray) (V : List Int) (ih : GT x.f0 x.f1 x.f2 x.f3 N V) : GT op n nm [x] N V := by
  obtain ⟨K, a, h⟩ := ih
  obtain ⟨u, t, hu⟩ := un_ref op a.1
  have href : ∀ k, K + 4 ≤ k → interleaveref05_Expr.f k op n nm [x] N V = some (if a.2 = true then (u, t) else (0, false)) := fun k hk => by
    obtain ⟨k, rfl⟩ : ∃ m, k = m + 3 := ⟨k - 3, by omega⟩
    rw [ref_ops _ _ _ _ _ _ _ (.inl (by simp)), interleaveref05_Expr.j1, if_neg Bool.false_ne_true, if_pos (by simp), if_pos (by simp), show interleaveref05_Expr.f k (rd_T36 [x] 0).f0 (rd_T36 [x] 0).f1 (rd_T36 [x] 0).f2 (rd_T36 [x] 0).f3 N V = some a from (h k (by omega)).2, Option.bind_some, hu, Option.bind_some]
    split <;> rfl
  have hev : ∀ k, K + 5 ≤ k → eval_Expr.f k op n nm [x] N V = some (if a.2 = true then (u, t) else (0, false)) := fun k hk => by
    obtain ⟨k, rfl⟩ : ∃ m, k = m + 1 := ⟨k - 1, by omega⟩
    rw [ev_succ _ _ _ _ _ _ _ (by omega)]
    by_cases ho : opv op = 1
    · have h45 : op = 4 ∨ op = 5 := by
        unfold opv at ho
        by_cases g : op = 4 ∨ op = 5
        · exact g
        · exfalso
          split at ho
          · omega
          · (try rw [if_neg g] at ho)
            split at ho <;> omega
      rw [if_neg (by simp [ho]), if_pos (by simp), show evc k [x] 0 N V = some a from (h k (by omega)).1, Option.bind_some, if_neg (by simp), Option.bind_some]
      by_cases ha : a.2 = true
      · rw [if_neg (by simp [ha]), if_pos ha, eval_Expr.tl, if_neg (by omega), if_neg (by omega), if_pos h45, un_eq, hu]
      · rw [if_pos (.inl (by simpa using ha)), if_neg ha]
    · have hz : (u, t) = (0, false) := by
        have h4 : op ≠ 4 ∧ op ≠ 5 := ⟨fun e => ho (by subst e; rfl), fun e => ho (by subst e; rfl)⟩
        unfold interleaveref05_Unary.f at hu
        rw [if_neg h4.1, if_neg h4.2] at hu
        exact (Option.some.inj hu).symm
      rw [if_pos (by simp; exact fun e => ho e.symm), hz]
      split <;> rfl
  exact ⟨K + 5, _, fun k hk => ⟨hev k hk, href k (by omega)⟩⟩
theorem ttwo (op n : Int) (nm : ByteArray) (x y : S36) (N : List ByteArray) (V : List Int) (ih : GT x.f0 x.f1 x.f2 x.f3 N V) (ih' : GT y.f0 y.f1 y.f2 y.f3 N V) : GT op n nm [x, y] N V := by
  obtain ⟨K, a, h⟩ := ih
  obtain ⟨K', b, h'⟩ := ih'
  obtain ⟨u, t, hu⟩ := bin_ref op a.1 b.1
  have href : ∀ k, K + K' + 4 ≤ k → interleaveref05_Expr.f k op n nm [x, y] N V = some (if a.2 = true ∧ b.2 = true then (u, t) else (0, false)) := fun k hk => by
    obtain ⟨k, rfl⟩ : ∃ m, k = m + 3 := ⟨k - 3, by omega⟩
    rw [ref_ops _ _ _ _ _ _ _ (.inl (by simp)), interleaveref05_Expr.j1, if_neg Bool.false_ne_true, if_neg (by simp), if_pos (by simp), if_pos (by simp), show interleaveref05_Expr.f k (rd_T36 [x, y] 0).f0 (rd_T36 [x, y] 0).f1 (rd_T36 [x, y] 0).f2 (rd_T36 [x, y] 0).f3 N V = some a from (h k (by omega)).2, Option.bind_some, if_pos (by simp), show interleaveref05_Expr.f k (rd_T36 [x, y] 1).f0 (rd_T36 [x, y] 1).f1 (rd_T36 [x, y] 1).f2 (rd_T36 [x, y] 1).f3 N V = some b from (h' k (by omega)).2, Option.bind_some, hu, Option.bind_some]
    by_cases ha : a.2 = true
    · by_cases hb : b.2 = true
      · rw [if_pos ha, if_pos hb, if_pos ⟨ha, hb⟩]
      · rw [if_pos ha, if_neg hb, if_neg (fun g => hb g.2)]
    · rw [if_neg ha, if_neg (fun g => ha g.1)]
  have hev : ∀ k, K + K' + 5 ≤ k → eval_Expr.f k op n nm [x, y] N V = some (if a.2 = true ∧ b.2 = true then (u, t) else (0, false)) := fun k hk => by
    obtain ⟨k, rfl⟩ : ∃ m, k = m + 1 := ⟨k - 1, by omega⟩
    rw [ev_succ _ _ _ _ _ _ _ (by omega)]
    by_cases ho : opv op = 2
    · have hop : op ≠ 1 ∧ op ≠ 2 ∧ ¬ (op = 4 ∨ op = 5) := by
        unfold opv at ho
        refine ⟨fun e => ?_, fun e => ?_, fun e => ?_⟩
        · rw [if_pos (.inl e)] at ho; omega
        · rw [if_pos (.inr e)] at ho; omega
        · rw [if_neg (by omega), if_pos e] at ho; omega
      rw [if_neg (by simp [ho]), if_pos (by simp), show evc k [x, y] 0 N V = some a from (h k (by omega)).1, Option.bind_some, if_pos (by simp), show evc k [x, y] 1 N V = some b from (h' k (by omega)).1, Option.bind_some]
      by_cases ha : a.2 = true
      · by_cases hb : b.2 = true
        · obtain ⟨k, rfl⟩ : ∃ m, k = m + 1 := ⟨k - 1, by omega⟩
          rw [if_neg (by simp [ha, hb]), if_pos ⟨ha, hb⟩, eval_Expr.tl, if_neg hop.1, if_neg hop.2.1, if_neg hop.2.2, bin_eq, hu]
        · rw [if_pos (.inr (by simpa using hb)), if_neg (fun g => hb g.2)]
      · rw [if_pos (.inl (by simpa using ha)), if_neg (fun g => ha g.1)]
    · have hz : (u, t) = (0, false) := by
        have hop : op < 6 ∨ 18 < op := by
          by_cases g : 6 ≤ op ∧ op ≤ 18
          · exfalso
            apply ho
            unfold opv
            rw [if_neg (by omega), if_neg (by omega), if_pos g]
          · omega
        unfold interleaveref05_Binary.f at hu
        rw [if_neg (by omega), if_neg (by omega), if_neg (by omega), if_neg (by omega), if_neg (by omega), if_neg (by omega), if_neg (by omega), if_neg (by omega), if_neg (by omega), if_neg (by omega), if_neg (by omega), if_neg (by omega), if_neg (by omega)] at hu
        exact (Option.some.inj hu).symm
      rw [if_pos (by simp; exact fun e => ho e.symm), hz]
      split <;> rfl
  exact ⟨K + K' + 5, _, fun k hk => ⟨hev k hk, href k (by omega)⟩⟩
theorem tmany (op n : Int) (nm : ByteArray) (l : List S36) (N : List ByteArray) (V : List Int) (hl : 3 ≤ l.length) : GT op n nm l N V := by
  have hne : l ≠ [] := fun e => by rw [e] at hl; simp at hl
  have ho := opv_le op
  refine ⟨4, (0, false), fun k hk => ?_⟩
  obtain ⟨k, rfl⟩ : ∃ m, k = m + 3 := ⟨k - 3, by omega⟩
  exact ⟨by rw [ev_succ _ _ _ _ _ _ _ (by omega), if_pos (by omega)], by rw [ref_ops _ _ _ _ _ _ _ (.inl hne), interleaveref05_Expr.j1, if_neg Bool.false_ne_true, if_neg (by omega), if_neg (by omega)]⟩
theorem size_f3 {x : S36} {l : List S36} (hx : x ∈ l) : SizeOf.sizeOf x.f3 < SizeOf.sizeOf l := by
  have h := List.sizeOf_lt_of_mem hx
  cases x with
  | mk f0 f1 f2 f3 =>
    have h2 : SizeOf.sizeOf (S36.mk f0 f1 f2 f3) = 1 + SizeOf.sizeOf f0 + SizeOf.sizeOf f1 + SizeOf.sizeOf f2 + SizeOf.sizeOf f3 := by simp
    show SizeOf.sizeOf f3 < SizeOf.sizeOf l
    omega
theorem tells_tree (N : List ByteArray) (V : List Int) (hn : N.length ≤ 1000) : ∀ (m : Nat) (op n : Int) (nm : ByteArray) (l : List S36), SizeOf.sizeOf l ≤ m → GT op n nm l N V := by
  intro m
  induction m with
  | zero =>
    intro op n nm l h
    cases l with
    | nil => exact tleaf op n nm N V hn
    | cons x l => simp at h
  | succ m ih =>
    intro op n nm l h
    match l, h with
    | [], _ => exact tleaf op n nm N V hn
    | [x], h => exact tone op n nm x N V (ih _ _ _ _ (by have := size_f3 (x := x) (l := [x]) (by simp); omega))
    | [x, y], h => exact ttwo op n nm x y N V (ih _ _ _ _ (by have := size_f3 (x := x) (l := [x, y]) (by simp); omega)) (ih _ _ _ _ (by have := size_f3 (x := y) (l := [x, y]) (by simp); omega))
    | x :: y :: z :: l, _ => exact tmany op n nm _ N V (by simp)
theorem EvalExprTells (op n : Int) (nm : ByteArray) (l : List S36) (names : List ByteArray) (vals : List Int) : names.length ≤ 100 → ∃ (k : Nat) (a : Int) (ok : Bool), eval_Expr.f k op n nm l names vals = some (a, ok) ∧ interleaveref05_Expr.f k op n nm l names vals = some (a, ok) ∧ interleavelaw05_awake.f k = some true := by
  intro hn
  obtain ⟨Ka, hA⟩ : ∃ K, ∀ k, K ≤ k → interleavelaw05_awake.f k = some true := Ev.of (g := fun k => interleavelaw05_awake.f k) interleavelaw05_awake.mono (k := 20) (by decide +kernel)
  obtain ⟨K, ⟨a, ok⟩, h⟩ := tells_tree names vals (by omega) (SizeOf.sizeOf l) op n nm l (Nat.le_refl _)
  have h2 := h (K + Ka) (by omega)
  exact ⟨K + Ka, a, ok, h2.1, h2.2, hA _ (by omega)⟩
theorem EvalExprTells2 (vals : List Int) : ∀ vn, interleavelaw05_variables.f = some vn → ∀ (yo yn : Int) (ym : ByteArray) (ly : List S36), interleavemade_loose_expr.Sm 5 ly → ∃ (k : Nat) (a : Int) (ok : Bool), eval_Expr.f k yo yn ym ly vn vals = some (a, ok) ∧ interleaveref05_Expr.f k yo yn ym ly vn vals = some (a, ok) := by
  intro vn hvn yo yn ym ly _
  have hn : vn.length ≤ 1000 := by
    unfold interleavelaw05_variables.f at hvn
    rw [← Option.some.inj hvn]; decide
  obtain ⟨K, ⟨a, ok⟩, h⟩ := tells_tree vn vals hn (SizeOf.sizeOf ly) yo yn ym ly (Nat.le_refl _)
  exact ⟨K, a, ok, (h K (Nat.le_refl _)).1, (h K (Nat.le_refl _)).2⟩

end Go.Proofs.Ytgoefoilghjfhaa.Pure
