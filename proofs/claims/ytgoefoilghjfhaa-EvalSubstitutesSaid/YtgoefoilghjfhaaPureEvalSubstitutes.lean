/- replacing the variables of an expression by their values does not change its value: the plain statement of EvalSubstitutes, for every argument within the bounds of its row. -/
import Derived.Test.YtgoefoilghjfhaaMEvalSubstitutesx
import Derived.OpenShut
namespace Go.Proofs.Ytgoefoilghjfhaa.Pure
open Go.RowKit Go.Proofs.Ytgoefoilghjfhaa Go.Proofs.Ytgoefoilghjfhaa.MEvalSubstitutes Go.Proofs.YtgoefoilghjfhaaW.PrintWords Go.Proofs.YtgoefoilghjfhaaW.PrintLast Go.Proofs.YtgoefoilghjfhaaW.PrintMore
set_option linter.unusedVariables false
set_option linter.unusedSimpArgs false

theorem bd {x : Int} (h : (Lit.int .i64 x).wf = true) : -9223372036854775808 ≤ x ∧ x ≤ 9223372036854775807 := bounds_i64 h
theorem wrap_self {x : Int} (h : -9223372036854775808 ≤ x ∧ x ≤ 9223372036854775807) : wrap64 x = x := by unfold wrap64; omega
theorem wrap_add_mul (x k : Int) : wrap64 (x + 18446744073709551616 * k) = wrap64 x := by unfold wrap64; omega
theorem wrap_form (x : Int) : ∃ k, wrap64 x = x + 18446744073709551616 * k :=
  ⟨-((x + 9223372036854775808) / 18446744073709551616), by unfold wrap64; omega⟩
theorem wrap_mul_l (x y : Int) : wrap64 (wrap64 x * y) = wrap64 (x * y) := by
  obtain ⟨k, hk⟩ := wrap_form x
  rw [hk, Int.add_mul, Int.mul_assoc, wrap_add_mul]
theorem wrap_add_l (x y : Int) : wrap64 (wrap64 x + y) = wrap64 (x + y) := by
  obtain ⟨k, hk⟩ := wrap_form x
  rw [hk, show x + 18446744073709551616 * k + y = x + y + 18446744073709551616 * k from by omega, wrap_add_mul]
theorem wrap_add_r (x y : Int) : wrap64 (x + wrap64 y) = wrap64 (x + y) := by
  rw [Int.add_comm, wrap_add_l, Int.add_comm]
theorem emod_bd (a b : Int) (hb : b ≠ 0) : 0 ≤ a % b ∧ (0 < b → a % b < b) ∧ (b < 0 → a % b < -b) := by
  refine ⟨Int.emod_nonneg a hb, fun h => Int.emod_lt_of_pos a h, fun h => ?_⟩
  have := Int.emod_lt_of_pos a (b := -b) (by omega)
  rwa [Int.emod_neg] at this
theorem tmod_pos {a b : Int} (ha : 0 ≤ a) (hb : b ≠ 0) : 0 ≤ Int.tmod a b ∧ (0 < b → Int.tmod a b < b) ∧ (b < 0 → Int.tmod a b < -b) := by
  rw [Int.tmod_eq_emod_of_nonneg ha]; exact emod_bd a b hb
theorem tmod_neg {a b : Int} (ha : a ≤ 0) (hb : b ≠ 0) : Int.tmod a b ≤ 0 ∧ (0 < b → -b < Int.tmod a b) ∧ (b < 0 → b < Int.tmod a b) := by
  have e : Int.tmod a b = -((-a) % b) := by
    rw [← Int.tmod_eq_emod_of_nonneg (by omega), Int.neg_tmod, Int.neg_neg]
  have h := emod_bd (-a) b hb
  rw [e]
  exact ⟨by omega, fun h' => by have := h.2.1 h'; omega, fun h' => by have := h.2.2 h'; omega⟩
theorem truth_some (b : Bool) : eval_truth.f b = some (if b = true then 1 else 0) := by unfold eval_truth.f; split <;> rfl
def opv (op : Int) : Int := if op = 1 ∨ op = 2 then 0 else if op = 4 ∨ op = 5 then 1 else if 6 ≤ op ∧ op ≤ 18 then 2 else -1
theorem operands_f (op : Int) (k : Nat) (hk : 2 ≤ k) : eval_operands.f k op = some (opv op) := by
  obtain ⟨k, rfl⟩ : ∃ m, k = m + 2 := ⟨k - 2, by omega⟩
  by_cases h1 : op = 1
  · subst h1; simp [eval_operands.f, eval_operands.j0, opv]
  by_cases h2 : op = 2
  · subst h2; simp [eval_operands.f, eval_operands.j0, opv]
  by_cases h4 : op = 4
  · subst h4; simp [eval_operands.f, eval_operands.j0, eval_operands.j1, opv]
  by_cases h5 : op = 5
  · subst h5; simp [eval_operands.f, eval_operands.j0, eval_operands.j1, opv]
  by_cases h6 : 6 ≤ op
  · by_cases h18 : op ≤ 18
    · simp [eval_operands.f, eval_operands.j0, eval_operands.j1, opv, h1, h2, h4, h5, h6, h18]
    · simp [eval_operands.f, eval_operands.j0, eval_operands.j1, opv, h1, h2, h4, h5, h6, h18]
  · simp [eval_operands.f, eval_operands.j0, eval_operands.j1, opv, h1, h2, h4, h5, h6]
theorem w1e {i : Int} (h0 : -1 ≤ i) (h : i ≤ 35184372088832) : wrap64 (i + 1) = i + 1 := by unfold wrap64; omega
/-- The first index of a name, as the library and the reference find it. -/
theorem idx (names : List ByteArray) (nm : ByteArray) (hn : names.length ≤ 1000) : ∀ (d i : Nat), i + d = names.length → ∃ r : Int, (r = -1 ∨ (0 ≤ r ∧ r < names.length)) ∧ (∀ k, d < k → slices_Index_string_string.l0 k names nm (names.length : Int) (i : Int) = some r) ∧
    (∀ k, d < k → ∀ (vals : List Int) (op n : Int) (l : List S36), interleaveref05_Expr.l0 k names vals (i : Int) op n nm l = if r = -1 ∨ r ≥ (vals.length : Int) then some (0, false) else some (rd vals r, true)) := by
  intro d
  induction d with
  | zero =>
    intro i hi
    refine ⟨-1, .inl rfl, fun k hk => ?_, fun k hk vals op n l => ?_⟩
    · obtain ⟨k, rfl⟩ : ∃ m, k = m + 1 := ⟨k - 1, by omega⟩
      rw [slices_Index_string_string.l0, if_neg (by omega)]
    · obtain ⟨k, rfl⟩ : ∃ m, k = m + 1 := ⟨k - 1, by omega⟩
      rw [interleaveref05_Expr.l0, if_neg (by omega), if_pos (.inl rfl)]
  | succ d ih =>
    intro i hi
    by_cases he : (rdOf ByteArray.empty names (i : Int)).toList = nm.toList
    · refine ⟨(i : Int), .inr ⟨by omega, by omega⟩, fun k hk => ?_, fun k hk vals op n l => ?_⟩
      · obtain ⟨k, rfl⟩ : ∃ m, k = m + 1 := ⟨k - 1, by omega⟩
        rw [slices_Index_string_string.l0, if_pos (by omega), if_pos (by omega), if_pos (by omega), if_pos he.symm]
      · obtain ⟨k, rfl⟩ : ∃ m, k = m + 1 := ⟨k - 1, by omega⟩
        rw [interleaveref05_Expr.l0, if_pos (by omega), if_pos (by omega), if_pos he]
        by_cases hv : (i : Int) ≥ (vals.length : Int)
        · rw [if_pos hv, if_pos (.inr hv)]
        · rw [if_neg hv, if_pos (by omega), if_neg (by omega)]
    · obtain ⟨r, h1, h2, h3⟩ := ih (i + 1) (by omega)
      refine ⟨r, h1, fun k hk => ?_, fun k hk vals op n l => ?_⟩
      · obtain ⟨k, rfl⟩ : ∃ m, k = m + 1 := ⟨k - 1, by omega⟩
        rw [slices_Index_string_string.l0, if_pos (by omega), if_pos (by omega), if_pos (by omega), if_neg (fun e => he e.symm), w1e (by omega) (by omega)]
        exact h2 k (by omega)
      · obtain ⟨k, rfl⟩ : ∃ m, k = m + 1 := ⟨k - 1, by omega⟩
        rw [interleaveref05_Expr.l0, if_pos (by omega), if_pos (by omega), if_neg he, w1e (by omega) (by omega)]
        exact h3 k (by omega) vals op n l
theorem index_f (names : List ByteArray) (nm : ByteArray) (hn : names.length ≤ 1000) : ∃ r : Int, (r = -1 ∨ (0 ≤ r ∧ r < names.length)) ∧ (∀ k, names.length < k → slices_Index_string_string.f k names nm = some r) ∧
    (∀ k, names.length < k → ∀ (vals : List Int) (op n : Int) (l : List S36), interleaveref05_Expr.l0 k names vals 0 op n nm l = if r = -1 ∨ r ≥ (vals.length : Int) then some (0, false) else some (rd vals r, true)) := by
  obtain ⟨r, h1, h2, h3⟩ := idx names nm hn names.length 0 (by omega)
  exact ⟨r, h1, fun k hk => h2 k hk, fun k hk => h3 k hk⟩
theorem truth_ev (b : Bool) : ∃ r, eval_truth.f b = some r := by cases b <;> exact ⟨_, rfl⟩
theorem div_ev (a b c : Int) : ∃ r, eval_divide.f a b c = some r := by
  unfold eval_divide.f
  split
  · exact ⟨_, rfl⟩
  · split <;> exact ⟨_, rfl⟩
theorem bind_ev {α β : Type} {x : Option α} {f : α → Option β} (hx : ∃ r, x = some r) (hf : ∀ r, ∃ p, f r = some p) : ∃ p, x.bind f = some p := by
  obtain ⟨r, rfl⟩ := hx
  exact hf r
theorem bin_ev (op v0 v1 : Int) : ∃ p, ∀ k, 1 ≤ k → eval_Binary.f k op v0 v1 = some p := by
  have key : ∀ b, ∃ p, ∀ m, eval_Binary.j0 (m + 1) op v0 v1 op b = some p := by
    intro b
    obtain ⟨p, hp⟩ : ∃ p, eval_Binary.j0 1 op v0 v1 op b = some p := by
      rw [eval_Binary.j0]
      repeat' split
      all_goals first
        | exact bind_ev (div_ev _ _ _) (fun r => ⟨_, rfl⟩)
        | exact bind_ev (truth_ev _) (fun r => ⟨_, rfl⟩)
        | exact ⟨_, rfl⟩
    refine ⟨p, fun m => ?_⟩
    rw [eval_Binary.j0] at hp ⊢
    exact hp
  unfold eval_Binary.f
  by_cases h6 : op = 6
  · exact ⟨_, fun k _ => by rw [if_pos h6]⟩
  by_cases h7 : op = 7
  · exact ⟨_, fun k _ => by rw [if_neg h6, if_pos h7]⟩
  by_cases h8 : op = 8
  · exact ⟨_, fun k _ => by rw [if_neg h6, if_neg h7, if_pos h8]⟩
  by_cases h9 : op = 9
  · obtain ⟨p, hp⟩ := key (op == 9)
    refine ⟨p, fun k hk => ?_⟩
    obtain ⟨k, rfl⟩ : ∃ m, k = m + 1 := ⟨k - 1, by omega⟩
    rw [if_neg h6, if_neg h7, if_neg h8, if_pos h9, hp]
  · obtain ⟨p, hp⟩ := key (op == 10)
    refine ⟨p, fun k hk => ?_⟩
    obtain ⟨k, rfl⟩ : ∃ m, k = m + 1 := ⟨k - 1, by omega⟩
    rw [if_neg h6, if_neg h7, if_neg h8, if_neg h9, hp]
/-- The end of Expr at an operator: it does not ask the names. -/
theorem tl_ev (op v0 v1 : Int) (h1 : op ≠ 1) (h2 : op ≠ 2) : ∃ p, ∀ k, 1 ≤ k → ∀ (n : Int) (nm : ByteArray) (names : List ByteArray) (vals : List Int), eval_Expr.tl k op n nm names vals v0 v1 = some p := by
  by_cases h45 : op = 4 ∨ op = 5
  · obtain ⟨p, hp⟩ : ∃ p, eval_Unary.f op v0 = some p := by
      unfold eval_Unary.f
      rcases h45 with h | h
      · exact ⟨_, by rw [if_pos h]⟩
      · rw [if_neg (by omega), if_pos h]
        exact bind_ev (truth_ev _) (fun r => ⟨_, rfl⟩)
    exact ⟨p, fun k _ n nm names vals => by rw [eval_Expr.tl, if_neg h1, if_neg h2, if_pos h45, hp]⟩
  · obtain ⟨p, hp⟩ := bin_ev op v0 v1
    exact ⟨p, fun k hk n nm names vals => by rw [eval_Expr.tl, if_neg h1, if_neg h2, if_neg h45, hp k hk]⟩
abbrev evc (k : Nat) (l : List S36) (i : Int) (names : List ByteArray) (vals : List Int) : Option (Int × Bool) := eval_Expr.f k (rd_T36 l i).f0 (rd_T36 l i).f1 (rd_T36 l i).f2 (rd_T36 l i).f3 names vals
theorem ev_succ (k : Nat) (op n : Int) (nm : ByteArray) (l : List S36) (names : List ByteArray) (vals : List Int) (hk : 2 ≤ k) : eval_Expr.f (k + 1) op n nm l names vals = if (l.length : Int) ≠ opv op then some (0, false) else (if 0 < l.length then evc k l 0 names vals else some (0, true)).bind fun p0 => (if 1 < l.length then evc k l 1 names vals else some (0, true)).bind fun p1 => if p0.2 = false ∨ p1.2 = false then some (0, false) else eval_Expr.tl k op n nm names vals p0.1 p1.1 := by
  rw [eval_Expr.f, operands_f op k hk]; rfl
/-- Two expressions of one operator, of equal values of the operands, have the same value. -/
theorem ev_node (op n : Int) (nm : ByteArray) (l l' : List S36) (N N' : List ByteArray) (V V' : List Int) (hlen : l.length = l'.length) (hl : 1 ≤ l.length ∧ l.length ≤ 2)
    (hch : ∀ i : Nat, i < l.length → ∃ K p, ∀ k, K ≤ k → evc k l (i : Int) N V = some p ∧ evc k l' (i : Int) N' V' = some p) : ∃ K a, ∀ k, K ≤ k → eval_Expr.f k op n nm l N V = some a ∧ eval_Expr.f k op n nm l' N' V' = some a := by
  by_cases ho : (l.length : Int) ≠ opv op
  · refine ⟨3, (0, false), fun k hk => ?_⟩
    obtain ⟨k, rfl⟩ : ∃ m, k = m + 1 := ⟨k - 1, by omega⟩
    exact ⟨by rw [ev_succ _ _ _ _ _ _ _ (by omega), if_pos ho], by rw [ev_succ _ _ _ _ _ _ _ (by omega), if_pos (by rw [← hlen]; exact ho)]⟩
  · have h12 : op ≠ 1 ∧ op ≠ 2 := by
      have : (l.length : Int) = opv op := by omega
      unfold opv at this
      refine ⟨fun e => ?_, fun e => ?_⟩
      · rw [if_pos (.inl e)] at this; omega
      · rw [if_pos (.inr e)] at this; omega
    obtain ⟨K0, p0, h0⟩ := hch 0 (by omega)
    obtain ⟨K1, p1, h1⟩ : ∃ K1 p1, ∀ k, K1 ≤ k → (if 1 < l.length then evc k l 1 N V else some (0, true)) = some p1 ∧ (if 1 < l'.length then evc k l' 1 N' V' else some (0, true)) = some p1 := by
      by_cases h2 : 1 < l.length
      · obtain ⟨K1, p1, h1⟩ := hch 1 h2
        exact ⟨K1, p1, fun k hk => by rw [if_pos h2, if_pos (by omega)]; exact h1 k hk⟩
      · exact ⟨0, (0, true), fun k _ => by rw [if_neg h2, if_neg (by omega)]; exact ⟨rfl, rfl⟩⟩
    obtain ⟨pt, ht⟩ := tl_ev op p0.1 p1.1 h12.1 h12.2
    refine ⟨K0 + K1 + 3, if p0.2 = false ∨ p1.2 = false then (0, false) else pt, fun k hk => ?_⟩
    obtain ⟨k, rfl⟩ : ∃ m, k = m + 1 := ⟨k - 1, by omega⟩
    have a0 := h0 k (by omega)
    have a1 := h1 k (by omega)
    refine ⟨?_, ?_⟩
    · rw [ev_succ _ _ _ _ _ _ _ (by omega), if_neg ho, if_pos (by omega), show evc k l 0 N V = some p0 from a0.1, Option.bind_some, a1.1, Option.bind_some, ht k (by omega)]
      split <;> rfl
    · rw [ev_succ _ _ _ _ _ _ _ (by omega), if_neg (by rw [← hlen]; exact ho), if_pos (by omega), show evc k l' 0 N' V' = some p0 from a0.2, Option.bind_some, a1.2, Option.bind_some, ht k (by omega)]
      split <;> rfl
abbrev mkE (q : Int × Int × ByteArray × List S36) : S36 := ⟨q.1, q.2.1, q.2.2.1, q.2.2.2⟩
abbrev putc (k : Nat) (x : S36) (names : List ByteArray) (vals : List Int) := interleavelaw05_put.f k x.f0 x.f1 x.f2 x.f3 names vals
theorem put_loop (k : Nat) (op n : Int) (nm : ByteArray) (l : List S36) (N : List ByteArray) (V : List Int) (hl : l ≠ [] ∨ op ≠ 2) : interleavelaw05_put.f (k + 2) op n nm l N V = interleavelaw05_put.l0 k N V 0 op n nm l op n nm [] := by
  rw [interleavelaw05_put.f]
  by_cases h2 : op = 2
  · have hn : ((l.length : Int) == 0) = false := by
      rcases hl with h | h
      · have : l.length ≠ 0 := fun e => h (List.eq_nil_of_length_eq_zero e)
        simp; exact h
      · exact absurd h2 h
    rw [if_pos h2, hn, interleavelaw05_put.j0, if_neg Bool.false_ne_true]
  · rw [if_neg h2, interleavelaw05_put.j0, if_neg Bool.false_ne_true]
theorem put_one (op n : Int) (nm : ByteArray) (x : S36) (N : List ByteArray) (V : List Int) {K : Nat} {q : Int × Int × ByteArray × List S36} (hq : ∀ k, K ≤ k → putc k x N V = some q) (k : Nat) (hk : K + 5 ≤ k) : interleavelaw05_put.f k op n nm [x] N V = some (op, n, nm, [mkE q]) := by
  obtain ⟨k, rfl⟩ : ∃ m, k = (m + 2) + 2 := ⟨k - 4, by omega⟩
  rw [put_loop _ _ _ _ _ _ _ (.inl (by simp)), interleavelaw05_put.l0, if_pos (by simp), if_pos (by omega), show interleavelaw05_put.f (k + 1) (rd_T36 [x] 0).f0 (rd_T36 [x] 0).f1 (rd_T36 [x] 0).f2 (rd_T36 [x] 0).f3 N V = some q from hq _ (by omega), Option.bind_some, if_pos (by simp), w1e (by omega) (by omega), interleavelaw05_put.l0, if_neg (by simp)]
  rfl
theorem put_two (op n : Int) (nm : ByteArray) (x y : S36) (N : List ByteArray) (V : List Int) {K : Nat} {q r : Int × Int × ByteArray × List S36} (hq : ∀ k, K ≤ k → putc k x N V = some q) (hr : ∀ k, K ≤ k → putc k y N V = some r) (k : Nat) (hk : K + 6 ≤ k) : interleavelaw05_put.f k op n nm [x, y] N V = some (op, n, nm, [mkE q, mkE r]) := by
  obtain ⟨k, rfl⟩ : ∃ m, k = (m + 3) + 2 := ⟨k - 5, by omega⟩
  rw [put_loop _ _ _ _ _ _ _ (.inl (by simp)), interleavelaw05_put.l0, if_pos (by simp), if_pos (by omega), show interleavelaw05_put.f (k + 2) (rd_T36 [x, y] 0).f0 (rd_T36 [x, y] 0).f1 (rd_T36 [x, y] 0).f2 (rd_T36 [x, y] 0).f3 N V = some q from hq _ (by omega), Option.bind_some, if_pos (by simp), w1e (by omega) (by omega),
    interleavelaw05_put.l0, if_pos (by simp), if_pos (by omega), show interleavelaw05_put.f (k + 1) (rd_T36 [x, y] (0 + 1)).f0 (rd_T36 [x, y] (0 + 1)).f1 (rd_T36 [x, y] (0 + 1)).f2 (rd_T36 [x, y] (0 + 1)).f3 N V = some r from hr _ (by omega), Option.bind_some, if_pos (by simp), w1e (by omega) (by omega), interleavelaw05_put.l0, if_neg (by simp)]
  rfl
/-- An expression whose names are replaced by their values has the value that it had. -/
abbrev Goal (op n : Int) (nm : ByteArray) (l : List S36) (N : List ByteArray) (V : List Int) : Prop := ∃ K a q, ∀ k, K ≤ k → eval_Expr.f k op n nm l N V = some a ∧ interleavelaw05_put.f k op n nm l N V = some q ∧ eval_Expr.f k q.1 q.2.1 q.2.2.1 q.2.2.2 [] [] = some a
theorem leaf (op n : Int) (nm : ByteArray) (N : List ByteArray) (V : List Int) (hn : N.length ≤ 1000) : Goal op n nm [] N V := by
  have e0 : ∀ (k : Nat) (op n : Int) (nm : ByteArray) (N : List ByteArray) (V : List Int), 2 ≤ k → eval_Expr.f (k + 1) op n nm [] N V = if (0 : Int) ≠ opv op then some (0, false) else eval_Expr.tl k op n nm N V 0 0 := fun k op n nm N V hk => by
    rw [ev_succ _ _ _ _ _ _ _ hk]; rfl
  by_cases h2 : op = 2
  · subst h2
    obtain ⟨r, hr, h3, h4⟩ := index_f N nm hn
    have hz : ¬ ((0 : Int) ≠ opv 2) := fun h => h rfl
    have hz1 : ¬ ((0 : Int) ≠ opv 1) := fun h => h rfl
    have hev : ∀ k, N.length + 5 ≤ k → eval_Expr.f k 2 n nm [] N V = if r = -1 ∨ r ≥ (V.length : Int) then some (0, false) else some (rd V r, true) := fun k hk => by
      obtain ⟨k, rfl⟩ : ∃ m, k = m + 1 := ⟨k - 1, by omega⟩
      rw [e0 _ _ _ _ _ _ (by omega), if_neg hz, eval_Expr.tl, if_neg (by omega), if_pos rfl, h3 k (by omega), Option.bind_some]
      by_cases hb : r < 0 ∨ (V.length : Int) ≤ r
      · rw [if_pos hb, if_pos (by omega)]
      · rw [if_neg hb, if_neg (by omega)]
    have hput : ∀ k, N.length + 8 ≤ k → interleavelaw05_put.f k 2 n nm [] N V = if r = -1 ∨ r ≥ (V.length : Int) then some (2, n, nm, []) else some (1, rd V r, ⟨#[]⟩, []) := fun k hk => by
      obtain ⟨k, rfl⟩ : ∃ m, k = m + 2 := ⟨k - 2, by omega⟩
      have href : interleaveref05_Expr.f k 2 n nm [] N V = if r = -1 ∨ r ≥ (V.length : Int) then some (0, false) else some (rd V r, true) := by
        obtain ⟨k, rfl⟩ : ∃ m, k = m + 3 := ⟨k - 3, by omega⟩
        rw [interleaveref05_Expr.f, if_neg (by omega), interleaveref05_Expr.j0, if_neg Bool.false_ne_true, if_pos rfl, interleaveref05_Expr.j1, if_pos (by simp)]
        exact h4 k (by omega) V 2 n []
      rw [interleavelaw05_put.f, if_pos rfl, interleavelaw05_put.j0, if_pos (by simp), href]
      by_cases hb : r = -1 ∨ r ≥ (V.length : Int)
      · rw [if_pos hb, if_pos hb]; rfl
      · rw [if_neg hb, if_neg hb]; rfl
    by_cases hb : r = -1 ∨ r ≥ (V.length : Int)
    · refine ⟨N.length + 8, (0, false), (2, n, nm, []), fun k hk => ⟨by rw [hev k (by omega), if_pos hb], by rw [hput k hk, if_pos hb], ?_⟩⟩
      obtain ⟨k, rfl⟩ : ∃ m, k = m + 1 := ⟨k - 1, by omega⟩
      obtain ⟨r2, g1, g2, _⟩ := index_f [] nm (by simp)
      have hr2 : r2 = -1 := by
        rcases g1 with g | ⟨g, g'⟩
        · exact g
        · simp at g'; omega
      show eval_Expr.f (k + 1) 2 n nm [] [] [] = _
      rw [e0 _ _ _ _ _ _ (by omega), if_neg hz, eval_Expr.tl, if_neg (by omega), if_pos rfl, g2 k (by simp; omega), Option.bind_some, if_pos (.inl (by omega))]
    · refine ⟨N.length + 8, (rd V r, true), (1, rd V r, ⟨#[]⟩, []), fun k hk => ⟨by rw [hev k (by omega), if_neg hb], by rw [hput k hk, if_neg hb], ?_⟩⟩
      obtain ⟨k, rfl⟩ : ∃ m, k = m + 1 := ⟨k - 1, by omega⟩
      show eval_Expr.f (k + 1) 1 (rd V r) ⟨#[]⟩ [] [] [] = _
      rw [e0 _ _ _ _ _ _ (by omega), if_neg hz1, eval_Expr.tl, if_pos rfl]
  · have hput : ∀ k, 4 ≤ k → interleavelaw05_put.f k op n nm [] N V = some (op, n, nm, []) := fun k hk => by
      obtain ⟨k, rfl⟩ : ∃ m, k = (m + 1) + 2 := ⟨k - 3, by omega⟩
      rw [put_loop _ _ _ _ _ _ _ (.inr h2), interleavelaw05_put.l0, if_neg (by simp)]
    by_cases h1 : op = 1
    · subst h1
      have hz1 : ¬ ((0 : Int) ≠ opv 1) := fun h => h rfl
      refine ⟨5, (n, true), (1, n, nm, []), fun k hk => ⟨?_, hput k (by omega), ?_⟩⟩
      · obtain ⟨k, rfl⟩ : ∃ m, k = m + 1 := ⟨k - 1, by omega⟩
        rw [e0 _ _ _ _ _ _ (by omega), if_neg hz1, eval_Expr.tl, if_pos rfl]
      · obtain ⟨k, rfl⟩ : ∃ m, k = m + 1 := ⟨k - 1, by omega⟩
        show eval_Expr.f (k + 1) 1 n nm [] [] [] = _
        rw [e0 _ _ _ _ _ _ (by omega), if_neg hz1, eval_Expr.tl, if_pos rfl]
    · have hz : (0 : Int) ≠ opv op := by
        unfold opv
        rw [if_neg (by omega)]
        split
        · decide
        · split <;> decide
      refine ⟨5, (0, false), (op, n, nm, []), fun k hk => ⟨?_, hput k (by omega), ?_⟩⟩
      · obtain ⟨k, rfl⟩ : ∃ m, k = m + 1 := ⟨k - 1, by omega⟩
        rw [e0 _ _ _ _ _ _ (by omega), if_pos hz]
      · obtain ⟨k, rfl⟩ : ∃ m, k = m + 1 := ⟨k - 1, by omega⟩
        show eval_Expr.f (k + 1) op n nm [] [] [] = _
        rw [e0 _ _ _ _ _ _ (by omega), if_pos hz]
theorem node (op n : Int) (nm : ByteArray) (l : List S36) (N : List ByteArray) (V : List Int) (hn : N.length ≤ 1000) (hl : l.length ≤ 2) (ih : ∀ x ∈ l, Goal x.f0 x.f1 x.f2 x.f3 N V) : Goal op n nm l N V := by
  match l, hl with
  | [], _ => exact leaf op n nm N V hn
  | [x], _ =>
    obtain ⟨K, a, q, h⟩ := ih x (by simp)
    obtain ⟨K2, b, h2⟩ := ev_node op n nm [x] [mkE q] N [] V [] rfl ⟨by simp, by simp⟩ (fun i hi => by
      obtain rfl : i = 0 := by simpa using hi
      exact ⟨K, a, fun k hk => ⟨(h k hk).1, (h k hk).2.2⟩⟩)
    exact ⟨K + K2 + 5, b, (op, n, nm, [mkE q]), fun k hk => ⟨(h2 k (by omega)).1, put_one op n nm x N V (fun k hk => (h k hk).2.1) k (by omega), (h2 k (by omega)).2⟩⟩
  | [x, y], _ =>
    obtain ⟨K, a, q, h⟩ := ih x (by simp)
    obtain ⟨K', a', q', h'⟩ := ih y (by simp)
    obtain ⟨K2, b, h2⟩ := ev_node op n nm [x, y] [mkE q, mkE q'] N [] V [] rfl ⟨by simp, by simp⟩ (fun i hi => by
      rcases (show i = 0 ∨ i = 1 by simp at hi; omega) with rfl | rfl
      · exact ⟨K, a, fun k hk => ⟨(h k hk).1, (h k hk).2.2⟩⟩
      · exact ⟨K', a', fun k hk => ⟨(h' k hk).1, (h' k hk).2.2⟩⟩)
    exact ⟨K + K' + K2 + 6, b, (op, n, nm, [mkE q, mkE q']), fun k hk => ⟨(h2 k (by omega)).1, put_two op n nm x y N V (K := K + K') (fun k hk => (h k (by omega)).2.1) (fun k hk => (h' k (by omega)).2.1) k (by omega), (h2 k (by omega)).2⟩⟩
theorem tree (N : List ByteArray) (V : List Int) (hn : N.length ≤ 1000) : ∀ (d : Nat) (op n : Int) (nm : ByteArray) (l : List S36), interleavemade_loose_expr.Sm d l → Goal op n nm l N V := by
  intro d
  induction d with
  | zero => intro op n nm l h; obtain rfl : l = [] := h; exact leaf op n nm N V hn
  | succ d ih => intro op n nm l h; exact node op n nm l N V hn h.1 (fun x hx => ih x.f0 x.f1 x.f2 x.f3 (h.2 x hx))
theorem EvalSubstitutes (vals : List Int) : ∀ names, interleavelaw05_variables.f = some names → ∀ (op n : Int) (nm : ByteArray) (l : List S36), interleavemade_loose_expr.Sm 5 l → ∃ (k : Nat) (a : Int) (ok : Bool) (q1 q2 : Int) (q3 : ByteArray) (q4 : List S36), eval_Expr.f k op n nm l names vals = some (a, ok) ∧ interleavelaw05_put.f k op n nm l names vals = some (q1, q2, q3, q4) ∧ eval_Expr.f k q1 q2 q3 q4 [] [] = some (a, ok) ∧ interleavelaw05_awake.f k = some true := by
  intro names hnames op n nm l hs
  have hn : names.length ≤ 1000 := by
    unfold interleavelaw05_variables.f at hnames
    rw [← Option.some.inj hnames]; decide
  obtain ⟨Ka, hA⟩ : ∃ K, ∀ k, K ≤ k → interleavelaw05_awake.f k = some true := Ev.of (g := fun k => interleavelaw05_awake.f k) interleavelaw05_awake.mono (k := 20) (by decide +kernel)
  obtain ⟨K, ⟨a, ok⟩, ⟨q1, q2, q3, q4⟩, h⟩ := tree names vals hn 5 op n nm l hs
  have h2 := h (K + Ka) (by omega)
  exact ⟨K + Ka, a, ok, q1, q2, q3, q4, h2.1, h2.2.1, h2.2.2, hA _ (by omega)⟩

end Go.Proofs.Ytgoefoilghjfhaa.Pure
