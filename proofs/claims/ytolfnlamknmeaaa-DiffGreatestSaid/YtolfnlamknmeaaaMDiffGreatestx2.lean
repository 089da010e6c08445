-- Written by a program of this session (wip/myprint in its repo: the kit's print with additions of its own).
import Derived.Test.YtolfnlamknmeaaaMDiffGreatestx0
import Derived.Test.YtolfnlamknmeaaaMDiffGreatestx1
namespace Go.Proofs.Ytolfnlamknmeaaa.MDiffGreatest
open Go.RowKit Go.Proofs.YtolfnlamknmeaaaW.PrintWords Go.Proofs.YtolfnlamknmeaaaW.PrintLast Go.Proofs.YtolfnlamknmeaaaW.PrintMore
attribute [local go_sem] max2_int min2_int max_two min_two max_three min_three max_four min_four   -- for this text's walks alone
set_option linter.unusedVariables false
set_option linter.unusedSimpArgs false

/-! ### diff_Solve: function 14 -/
def diff_Solve.St (w0 W : World) (l : List S36) (A1 : Option Addr) (c1 bl g n : Nat) (x y : List Int) : Prop :=
  W.heap[bl]? = some (.cells #[.slice A1 l.length c1] 22 (0, 0)) ∧
  W.heap[g + 1]? = some (.cells #[.slice (some ⟨g, 0, none⟩) n n] 25 (0, 0)) ∧
  W.heap[g + 3]? = some (.cells #[.slice (some ⟨g + 2, 0, none⟩) n n] 25 (0, 0)) ∧
  Kd.R (Kd.int .i64) 3 W 0 (fun k => k = g) (.slice (some ⟨g, 0, none⟩) n n) x ∧
  Kd.R (Kd.int .i64) 3 W 0 (fun k => k = g + 2) (.slice (some ⟨g + 2, 0, none⟩) n n) y ∧
  x.length = n ∧ y.length = n ∧ bl < g ∧ w0.heap.size ≤ g ∧ Below w0.heap.size w0 W
theorem diff_Solve.St.below {w0 W W1 : World} {l : List S36} {A1 : Option Addr} {c1 bl g n : Nat} {x y : List Int} (h : diff_Solve.St w0 W l A1 c1 bl g n x y) (hb : Below W.heap.size W W1) : diff_Solve.St w0 W1 l A1 c1 bl g n x y := by
  obtain ⟨h1, h2, h3, h4, h5, h6, h7, h8, h9, h10⟩ := h
  exact ⟨blk_below h1 hb, blk_below h2 hb, blk_below h3 hb, Kd.R_below h4 hb, Kd.R_below h5 hb, h6, h7, h8, h9, below_step h10 hb⟩
theorem diff_Solve.St.alloc {w0 W : World} {l : List S36} {A1 : Option Addr} {c1 bl g n : Nat} {x y : List Int} (h : diff_Solve.St w0 W l A1 c1 bl g n x y) (o : Obj) : diff_Solve.St w0 (W.alloc o) l A1 c1 bl g n x y := h.below (below_alloc (Below.refl _ _) o)
theorem diff_Solve.St.drewN {w0 W : World} {l : List S36} {A1 : Option Addr} {c1 bl g n : Nat} {x y : List Int} (h : diff_Solve.St w0 W l A1 c1 bl g n x y) (m : Nat) : diff_Solve.St w0 (W.drewN m) l A1 c1 bl g n x y := h.below (pw_below_drewN (Below.refl _ _) m)
theorem diff_Solve.St.setx {w0 W : World} {l : List S36} {A1 : Option Addr} {c1 bl g n : Nat} {x y : List Int} (h : diff_Solve.St w0 W l A1 c1 bl g n x y) (X v : Int) : diff_Solve.St w0 (W.setCell ⟨g, X.toNat, none⟩ (.int .i64 v)) l A1 c1 bl g n (x.set X.toNat v) y := by
  obtain ⟨h1, h2, h3, h4, h5, h6, h7, h8, h9, h10⟩ := h
  refine ⟨(Below.heap_setCell W ⟨g, X.toNat, none⟩ _ _ (by show bl ≠ g; omega)).trans h1, (Below.heap_setCell W ⟨g, X.toNat, none⟩ _ _ (by show g + 1 ≠ g; omega)).trans h2, (Below.heap_setCell W ⟨g, X.toNat, none⟩ _ _ (by show g + 3 ≠ g; omega)).trans h3, Kd.R_putn h4 X v, Kd.R_far (p := ⟨g, X.toNat, none⟩) h5 (fun k hk => by show k ≠ g; omega) _, by rw [List.length_set]; exact h6, h7, h8, h9, below_set h10 h9⟩
theorem diff_Solve.St.sety {w0 W : World} {l : List S36} {A1 : Option Addr} {c1 bl g n : Nat} {x y : List Int} (h : diff_Solve.St w0 W l A1 c1 bl g n x y) (X v : Int) : diff_Solve.St w0 (W.setCell ⟨g + 2, X.toNat, none⟩ (.int .i64 v)) l A1 c1 bl g n x (y.set X.toNat v) := by
  obtain ⟨h1, h2, h3, h4, h5, h6, h7, h8, h9, h10⟩ := h
  refine ⟨(Below.heap_setCell W ⟨g + 2, X.toNat, none⟩ _ _ (by show bl ≠ g + 2; omega)).trans h1, (Below.heap_setCell W ⟨g + 2, X.toNat, none⟩ _ _ (by show g + 1 ≠ g + 2; omega)).trans h2, (Below.heap_setCell W ⟨g + 2, X.toNat, none⟩ _ _ (by show g + 3 ≠ g + 2; omega)).trans h3, Kd.R_far (p := ⟨g + 2, X.toNat, none⟩) h4 (fun k hk => by show k ≠ g + 2; omega) _, Kd.R_putn h5 X v, h6, by rw [List.length_set]; exact h7, h8, h9, below_set h10 (by omega)⟩
def diff_Solve.sum (l : List S36) (x : List Int) (i : Int) : Int := wrap64 (rd x (rd_T36 l i).f1 + (rd_T36 l i).f2)
def diff_Solve.lowers (l : List S36) (x : List Int) (i : Int) : Bool := decide (diff_Solve.sum l x i < rd x (rd_T36 l i).f0)
set_option maxHeartbeats 8000000 in
set_option maxRecDepth 100000 in
theorem diff_Solve.low_no (w0 W : World) (l : List S36) (A1 : Option Addr) (c1 bl g n : Nat) (x y : List Int) (hS : diff_Solve.St w0 W l A1 c1 bl g n x y) (hr : Kd.C k36 w0 A1 l.length l) (i : Int) (h0 : 0 ≤ i) (h1 : i < l.length)
    (hx0 : 0 ≤ (rd_T36 l i).f0) (hx1 : (rd_T36 l i).f0 < n) (hy0 : 0 ≤ (rd_T36 l i).f1) (hy1 : (rd_T36 l i).f1 < n) (hno : diff_Solve.lowers l x i = false) :
    Calls Try.prog 24 #[.int .i64 i, .pointer (some ⟨bl, 0, none⟩), .pointer (some ⟨g + 1, 0, none⟩), .pointer (some ⟨g + 3, 0, none⟩)] W fun e W' => e = .returned (.bool false) ∧ diff_Solve.St w0 W' l A1 c1 bl g n x y ∧ ∀ k, k < W.heap.size → k ≠ g → k ≠ g + 2 → W'.heap[k]? = W.heap[k]? := by
  obtain ⟨ad, rfl, hc0, hc1, hc2⟩ := at_T36 hr i h0 h1
  have hq0 := hS
  obtain ⟨q1, q2, q3, q4, q5, q6, q7, q8, q9, q10⟩ := hq0
  replace hc0 := (q10.cell (World.block_lt_of_cell? w0 _ hc0)).trans hc0
  replace hc1 := (q10.cell (World.block_lt_of_cell? w0 _ hc1)).trans hc1
  replace hc2 := (q10.cell (World.block_lt_of_cell? w0 _ hc2)).trans hc2
  have e1 := cell_of_one q1
  have e2 := cell_of_one q2
  have l1 := lt_of_block q1
  have l2 := lt_of_block q2
  have l4 := lt_of_block q3
  have l3 : g < W.heap.size := by omega
  obtain ⟨X, hX⟩ : ∃ X, X = (rd_T36 l i).f0 := ⟨_, rfl⟩
  obtain ⟨Y, hY⟩ : ∃ Y, Y = (rd_T36 l i).f1 := ⟨_, rfl⟩
  obtain ⟨C, hC⟩ : ∃ C, C = (rd_T36 l i).f2 := ⟨_, rfl⟩
  rw [← hX] at hx0 hx1 hc0
  rw [← hY] at hy0 hy1 hc1
  rw [← hC] at hc2
  (try rw [← hX, ← hY] at hne)
  obtain ⟨vx, hvx⟩ : ∃ v, v = rd x X := ⟨_, rfl⟩
  obtain ⟨vy, hvy⟩ : ∃ v, v = rd x Y := ⟨_, rfl⟩
  have hcx : W.cell? ⟨g, X.toNat, none⟩ = some (.int .i64 vx) := by rw [hvx]; exact (Kd.R_celln 0 q4 X hx0 hx1).1
  have hcy : W.cell? ⟨g, Y.toNat, none⟩ = some (.int .i64 vy) := by rw [hvy]; exact (Kd.R_celln 0 q4 Y hy0 hy1).1
  have hno' : decide (wrap64 (vy + C) < vx) = false := by
    unfold diff_Solve.lowers diff_Solve.sum at hno
    rw [← hX, ← hY, ← hC, ← hvx, ← hvy] at hno
    exact hno
  have hyes' : decide (vx ≤ wrap64 (vy + C)) = true := decide_eq_true (by have := of_decide_eq_false hno'; omega)
  have HS := Aside0.mk hS
  clear hno hno' hX hY hC hvx hvy hS hr q1 q2 q3 q4 q5 q6 q7 q8 q9 q10
  go_enter Try.func24, Try.ntmps24
  go_wp2
  go_quiet (fail)
  go_wp2
  go_ret
  exact ⟨rfl, ((HS.out.alloc _).drewN _), fun k hk _ _ => Below.heap_alloc W _ k hk⟩
set_option maxHeartbeats 8000000 in
set_option maxRecDepth 100000 in
theorem diff_Solve.low_yes (w0 W : World) (l : List S36) (A1 : Option Addr) (c1 bl g n : Nat) (x y : List Int) (hS : diff_Solve.St w0 W l A1 c1 bl g n x y) (hr : Kd.C k36 w0 A1 l.length l) (i : Int) (h0 : 0 ≤ i) (h1 : i < l.length)
    (hx0 : 0 ≤ (rd_T36 l i).f0) (hx1 : (rd_T36 l i).f0 < n) (hy0 : 0 ≤ (rd_T36 l i).f1) (hy1 : (rd_T36 l i).f1 < n) (hne : (rd_T36 l i).f0 ≠ (rd_T36 l i).f1) (hno : diff_Solve.lowers l x i = true) :
    Calls Try.prog 24 #[.int .i64 i, .pointer (some ⟨bl, 0, none⟩), .pointer (some ⟨g + 1, 0, none⟩), .pointer (some ⟨g + 3, 0, none⟩)] W fun e W' => e = .returned (.bool true) ∧ diff_Solve.St w0 W' l A1 c1 bl g n (x.set (rd_T36 l i).f0.toNat (diff_Solve.sum l x i)) (y.set (rd_T36 l i).f0.toNat i) ∧ ∀ k, k < W.heap.size → k ≠ g → k ≠ g + 2 → W'.heap[k]? = W.heap[k]? := by
  obtain ⟨ad, rfl, hc0, hc1, hc2⟩ := at_T36 hr i h0 h1
  have hq0 := hS
  obtain ⟨q1, q2, q3, q4, q5, q6, q7, q8, q9, q10⟩ := hq0
  replace hc0 := (q10.cell (World.block_lt_of_cell? w0 _ hc0)).trans hc0
  replace hc1 := (q10.cell (World.block_lt_of_cell? w0 _ hc1)).trans hc1
  replace hc2 := (q10.cell (World.block_lt_of_cell? w0 _ hc2)).trans hc2
  have e1 := cell_of_one q1
  have e2 := cell_of_one q2
  have l1 := lt_of_block q1
  have l2 := lt_of_block q2
  have l4 := lt_of_block q3
  have l3 : g < W.heap.size := by omega
  obtain ⟨X, hX⟩ : ∃ X, X = (rd_T36 l i).f0 := ⟨_, rfl⟩
  obtain ⟨Y, hY⟩ : ∃ Y, Y = (rd_T36 l i).f1 := ⟨_, rfl⟩
  obtain ⟨C, hC⟩ : ∃ C, C = (rd_T36 l i).f2 := ⟨_, rfl⟩
  rw [← hX] at hx0 hx1 hc0
  rw [← hY] at hy0 hy1 hc1
  rw [← hC] at hc2
  (try rw [← hX, ← hY] at hne)
  obtain ⟨vx, hvx⟩ : ∃ v, v = rd x X := ⟨_, rfl⟩
  obtain ⟨vy, hvy⟩ : ∃ v, v = rd x Y := ⟨_, rfl⟩
  have hcx : W.cell? ⟨g, X.toNat, none⟩ = some (.int .i64 vx) := by rw [hvx]; exact (Kd.R_celln 0 q4 X hx0 hx1).1
  have hcy : W.cell? ⟨g, Y.toNat, none⟩ = some (.int .i64 vy) := by rw [hvy]; exact (Kd.R_celln 0 q4 Y hy0 hy1).1
  have hno' : decide (wrap64 (vy + C) < vx) = true := by
    unfold diff_Solve.lowers diff_Solve.sum at hno
    rw [← hX, ← hY, ← hC, ← hvx, ← hvy] at hno
    exact hno
  have hyes' : decide (vx ≤ wrap64 (vy + C)) = false := decide_eq_false (by have := of_decide_eq_true hno'; omega)
  have e3 := cell_of_one q3
  have l5 : g + 2 < W.heap.size := by omega
  have hcw : W.cell? ⟨g + 2, X.toNat, none⟩ = some (.int .i64 (rdOf 0 y X)) := (Kd.R_celln 0 q5 X hx0 hx1).1
  have hfx : W.frozen? ⟨g, X.toNat, none⟩ = false := (Kd.R_celln 0 q4 X hx0 hx1).2
  have hfw : W.frozen? ⟨g + 2, X.toNat, none⟩ = false := (Kd.R_celln 0 q5 X hx0 hx1).2
  have HEQ := Aside0.mk (show (rd_T36 l i).f0 = X ∧ diff_Solve.sum l x i = wrap64 (vy + C) from ⟨hX.symm, by unfold diff_Solve.sum; rw [← hY, ← hC, ← hvy]⟩)
  have HS := Aside0.mk hS
  clear hno hno' hX hY hC hvx hvy hS hr q1 q2 q3 q4 q5 q6 q7 q8 q9 q10
  go_enter Try.func24, Try.ntmps24
  go_wp2
  go_quiet (fail)
  go_wp2
  obtain ⟨W2, hW2⟩ : ∃ W2, W2 = (W.alloc (Obj.cells #[Value.int IntKind.i64 X, Value.int IntKind.i64 Y, Value.int IntKind.i64 C] 36)).drewN nq := ⟨_, rfl⟩
  rw [← hW2]
  have z2 : W2.cell? ⟨g + 1, 0, none⟩ = some (Value.slice (some ⟨g, 0, none⟩) n n) := by rw [hW2]; go_simp
  have z3 : W2.cell? ⟨g + 3, 0, none⟩ = some (Value.slice (some ⟨g + 2, 0, none⟩) n n) := by rw [hW2]; go_simp
  have zX : W2.cell? ⟨W.heap.size, 0, none⟩ = some (Value.int .i64 X) := by rw [hW2]; go_simp
  have zY : W2.cell? ⟨W.heap.size, 1, none⟩ = some (Value.int .i64 Y) := by rw [hW2]; go_simp
  have zC : W2.cell? ⟨W.heap.size, 2, none⟩ = some (Value.int .i64 C) := by rw [hW2]; go_simp
  have zx : W2.cell? ⟨g, X.toNat, none⟩ = some (Value.int .i64 vx) := by rw [hW2]; go_simp
  have zy : W2.cell? ⟨g, Y.toNat, none⟩ = some (Value.int .i64 vy) := by rw [hW2]; go_simp
  have zw : W2.cell? ⟨g + 2, X.toNat, none⟩ = some (Value.int .i64 (rdOf 0 y X)) := by rw [hW2]; go_simp
  have zfx : W2.frozen? ⟨g, X.toNat, none⟩ = false := by rw [hW2]; go_simp
  have zfw : W2.frozen? ⟨g + 2, X.toNat, none⟩ = false := by rw [hW2]; go_simp
  have HK2 : Aside0 (∀ k, k < W.heap.size → W2.heap[k]? = W.heap[k]?) := ⟨fun k hk => by rw [hW2]; exact Below.heap_alloc W _ k hk⟩
  have HS2 : Aside0 (diff_Solve.St w0 W2 l (some ad) c1 bl g n x y) := ⟨by rw [hW2]; exact (HS.out.alloc _).drewN _⟩
  have hXY : (⟨g, X.toNat, none⟩ : Addr) ≠ ⟨g, Y.toNat, none⟩ := fun e => by injection e with _ e2 _; omega
  have hneg : g ≠ W.heap.size := by omega
  have hne2 : g + 2 ≠ W.heap.size := by omega
  have hne3 : g + 1 ≠ W.heap.size := by omega
  have hne4 : g + 3 ≠ W.heap.size := by omega
  obtain ⟨b, hb⟩ : ∃ b, b = W.heap.size := ⟨_, rfl⟩
  rw [← hb] at zX zY zC hneg hne2 hne3 hne4 ⊢
  clear hW2 HS e1 e2 e3 hcx hcy hcw hfx hfw hc0 hc1 hc2 l1 l2 l3 l4 l5 hb
  refine start_ (n := 19) (S := fun w' => w'.cell? ⟨g + 1, 0, none⟩ = some (.slice (some ⟨g, 0, none⟩) n n) ∧ w'.cell? ⟨g + 3, 0, none⟩ = some (.slice (some ⟨g + 2, 0, none⟩) n n) ∧ w'.cell? ⟨b, 0, none⟩ = some (.int .i64 X) ∧ w'.cell? ⟨b, 1, none⟩ = some (.int .i64 Y) ∧ w'.cell? ⟨b, 2, none⟩ = some (.int .i64 C) ∧ w'.cell? ⟨g, Y.toNat, none⟩ = some (.int .i64 vy) ∧ (∃ u, w'.cell? ⟨g, X.toNat, none⟩ = some u) ∧ w'.frozen? ⟨g, X.toNat, none⟩ = false ∧ (∃ u, w'.cell? ⟨g + 2, X.toNat, none⟩ = some u) ∧ w'.frozen? ⟨g + 2, X.toNat, none⟩ = false) (ds := []) #[false, false, false, false, false, false, false, false, false, false, false, false, false, false, false, false, false, false, false] (by kernel_rfl) rfl rfl ⟨z2, z3, zX, zY, zC, zy, ⟨_, zx⟩, zfx, ⟨_, zw⟩, zfw⟩ (fun hHeld => ?_)
  refine pure_ (i := 1) (N := some 26) (v := ?_) (a' := ?_) #[false, true, false, false, false, false, false, false, false, false, false, false, false, false, false, false, false, false, false] rfl rfl (by kernel_rfl) (fun _ _ _ h => h) (Or.inl ⟨by rfl, ?_⟩) ?_ ?_
  rotate_left
  · intro w'
    go_simp
    with_reducible rfl
  rotate_left
  · simp only [Act.put, List.setIfInBounds_toArray, List.set_cons_zero, List.set_cons_succ, i64_w, i32_w]
    rfl
  refine pure_ (i := 4) (N := some 29) (v := ?_) (a' := ?_) #[false, true, false, false, true, false, false, false, false, false, false, false, false, false, false, false, false, false, false] rfl rfl (by kernel_rfl) (fun _ _ _ h => h) (Or.inl ⟨by rfl, ?_⟩) ?_ ?_
  rotate_left
  · intro w'
    go_simp
    with_reducible rfl
  rotate_left
  · simp only [Act.put, List.setIfInBounds_toArray, List.set_cons_zero, List.set_cons_succ, i64_w, i32_w]
    rfl
  refine pure_ (i := 7) (N := some 32) (v := ?_) (a' := ?_) #[false, true, false, false, true, false, false, true, false, false, false, false, false, false, false, false, false, false, false] rfl rfl (by kernel_rfl) (fun _ _ _ h => h) (Or.inl ⟨by rfl, ?_⟩) ?_ ?_
  rotate_left
  · intro w'
    go_simp
    with_reducible rfl
  rotate_left
  · simp only [Act.put, List.setIfInBounds_toArray, List.set_cons_zero, List.set_cons_succ, i64_w, i32_w]
    rfl
  refine pure_ (i := 11) (N := some 36) (v := ?_) (a' := ?_) #[false, true, false, false, true, false, false, true, false, false, false, true, false, false, false, false, false, false, false] rfl rfl (by kernel_rfl) (fun _ _ _ h => h) (Or.inl ⟨by rfl, ?_⟩) ?_ ?_
  rotate_left
  · intro w'
    go_simp
    with_reducible rfl
  rotate_left
  · simp only [Act.put, List.setIfInBounds_toArray, List.set_cons_zero, List.set_cons_succ, i64_w, i32_w]
    rfl
  refine pure_ (i := 14) (N := some 39) (v := ?_) (a' := ?_) #[false, true, false, false, true, false, false, true, false, false, false, true, false, false, true, false, false, false, false] rfl rfl (by kernel_rfl) (fun _ _ _ h => h) (Or.inl ⟨by rfl, ?_⟩) ?_ ?_
  rotate_left
  · intro w'
    go_simp
    with_reducible rfl
  rotate_left
  · simp only [Act.put, List.setIfInBounds_toArray, List.set_cons_zero, List.set_cons_succ, i64_w, i32_w]
    rfl
  refine take_ (i := 0) (N := some 25) (v := ?_) (a' := ?_) #[true, true, false, false, true, false, false, true, false, false, false, true, false, false, true, false, false, false, false] rfl rfl (by kernel_rfl) (fun _ _ _ h => h) (Or.inl ⟨by rfl, ?_⟩) hHeld ?_ ?_
  rotate_left
  · rintro w' ⟨s0, s1, s2, s3, s4, s5, s6, s7, s8, s9⟩
    go_simp
    with_reducible rfl
  rotate_left
  · simp only [Act.put, List.setIfInBounds_toArray, List.set_cons_zero, List.set_cons_succ, i64_w, i32_w]
    rfl
  refine take_ (i := 2) (N := some 27) (v := ?_) (a' := ?_) #[true, true, true, false, true, false, false, true, false, false, false, true, false, false, true, false, false, false, false] rfl rfl (by kernel_rfl) (fun _ _ _ h => h) (Or.inl ⟨by rfl, ?_⟩) hHeld ?_ ?_
  rotate_left
  · rintro w' ⟨s0, s1, s2, s3, s4, s5, s6, s7, s8, s9⟩
    go_simp
    with_reducible rfl
  rotate_left
  · simp only [Act.put, List.setIfInBounds_toArray, List.set_cons_zero, List.set_cons_succ, i64_w, i32_w]
    rfl
  refine take_ (i := 3) (N := some 28) (v := ?_) (a' := ?_) #[true, true, true, true, true, false, false, true, false, false, false, true, false, false, true, false, false, false, false] rfl rfl (by kernel_rfl) (fun _ _ _ h => h) (Or.inl ⟨by rfl, ?_⟩) hHeld ?_ ?_
  rotate_left
  · rintro w' ⟨s0, s1, s2, s3, s4, s5, s6, s7, s8, s9⟩
    go_simp
    with_reducible rfl
  rotate_left
  · simp only [Act.put, List.setIfInBounds_toArray, List.set_cons_zero, List.set_cons_succ, i64_w, i32_w]
    rfl
  refine take_ (i := 5) (N := some 30) (v := ?_) (a' := ?_) #[true, true, true, true, true, true, false, true, false, false, false, true, false, false, true, false, false, false, false] rfl rfl (by kernel_rfl) (fun _ _ _ h => h) (Or.inl ⟨by rfl, ?_⟩) hHeld ?_ ?_
  rotate_left
  · rintro w' ⟨s0, s1, s2, s3, s4, s5, s6, s7, s8, s9⟩
    go_simp
    with_reducible rfl
  rotate_left
  · simp only [Act.put, List.setIfInBounds_toArray, List.set_cons_zero, List.set_cons_succ, i64_w, i32_w]
    rfl
  refine take_ (i := 6) (N := some 31) (v := ?_) (a' := ?_) #[true, true, true, true, true, true, true, true, false, false, false, true, false, false, true, false, false, false, false] rfl rfl (by kernel_rfl) (fun _ _ _ h => h) (Or.inl ⟨by rfl, ?_⟩) hHeld ?_ ?_
  rotate_left
  · rintro w' ⟨s0, s1, s2, s3, s4, s5, s6, s7, s8, s9⟩
    go_simp
    with_reducible rfl
  rotate_left
  · simp only [Act.put, List.setIfInBounds_toArray, List.set_cons_zero, List.set_cons_succ, i64_w, i32_w]
    rfl
  refine take_ (i := 8) (N := some 33) (v := ?_) (a' := ?_) #[true, true, true, true, true, true, true, true, true, false, false, true, false, false, true, false, false, false, false] rfl rfl (by kernel_rfl) (fun _ _ _ h => h) (Or.inl ⟨by rfl, ?_⟩) hHeld ?_ ?_
  rotate_left
  · rintro w' ⟨s0, s1, s2, s3, s4, s5, s6, s7, s8, s9⟩
    go_simp
    with_reducible rfl
  rotate_left
  · simp only [Act.put, List.setIfInBounds_toArray, List.set_cons_zero, List.set_cons_succ, i64_w, i32_w]
    rfl
  refine pure_ (i := 9) (N := some 34) (v := ?_) (a' := ?_) #[true, true, true, true, true, true, true, true, true, true, false, true, false, false, true, false, false, false, false] rfl rfl (by kernel_rfl) (fun _ _ _ h => h) (Or.inl ⟨by rfl, ?_⟩) ?_ ?_
  rotate_left
  · intro w'
    go_simp
    with_reducible rfl
  rotate_left
  · simp only [Act.put, List.setIfInBounds_toArray, List.set_cons_zero, List.set_cons_succ, i64_w, i32_w]
    rfl
  refine take_ (i := 10) (N := some 35) (v := ?_) (a' := ?_) #[true, true, true, true, true, true, true, true, true, true, true, true, false, false, true, false, false, false, false] rfl rfl (by kernel_rfl) (fun _ _ _ h => h) (Or.inl ⟨by rfl, ?_⟩) hHeld ?_ ?_
  rotate_left
  · rintro w' ⟨s0, s1, s2, s3, s4, s5, s6, s7, s8, s9⟩
    go_simp
    with_reducible rfl
  rotate_left
  · simp only [Act.put, List.setIfInBounds_toArray, List.set_cons_zero, List.set_cons_succ, i64_w, i32_w]
    rfl
  refine take_ (i := 12) (N := some 37) (v := ?_) (a' := ?_) #[true, true, true, true, true, true, true, true, true, true, true, true, true, false, true, false, false, false, false] rfl rfl (by kernel_rfl) (fun _ _ _ h => h) (Or.inl ⟨by rfl, ?_⟩) hHeld ?_ ?_
  rotate_left
  · rintro w' ⟨s0, s1, s2, s3, s4, s5, s6, s7, s8, s9⟩
    go_simp
    with_reducible rfl
  rotate_left
  · simp only [Act.put, List.setIfInBounds_toArray, List.set_cons_zero, List.set_cons_succ, i64_w, i32_w]
    rfl
  refine pure_ (i := 13) (N := some 38) (v := ?_) (a' := ?_) #[true, true, true, true, true, true, true, true, true, true, true, true, true, true, true, false, false, false, false] rfl rfl (by kernel_rfl) (fun _ _ _ h => h) (Or.inl ⟨by rfl, ?_⟩) ?_ ?_
  rotate_left
  · intro w'
    go_simp
    with_reducible rfl
  rotate_left
  · simp only [Act.put, List.setIfInBounds_toArray, List.set_cons_zero, List.set_cons_succ, i64_w, i32_w]
    rfl
  refine pure_ (i := 15) (N := some 40) (v := ?_) (a' := ?_) #[true, true, true, true, true, true, true, true, true, true, true, true, true, true, true, true, false, false, false] rfl rfl (by kernel_rfl) (fun _ _ _ h => h) (Or.inl ⟨by rfl, ?_⟩) ?_ ?_
  rotate_left
  · intro w'
    go_simp
    with_reducible rfl
  rotate_left
  · simp only [Act.put, List.setIfInBounds_toArray, List.set_cons_zero, List.set_cons_succ, i64_w, i32_w]
    rfl
  refine one_ (i := 16) (N := none) #[true, true, true, true, true, true, true, true, true, true, true, true, true, true, true, true, true, false, false] rfl rfl (by kernel_rfl) (by decide) (fun K hK => ?_)
  obtain ⟨t0, t1, t2, t3, t4, t5, ⟨u6, t6⟩, t7, ⟨u8, t8⟩, t9⟩ := hHeld
  refine skip_ (w1 := ?_) (by rfl) rfl ?_ ?_
  rotate_left
  · go_simp
    rfl
  refine hK.out _ _ ⟨(World.cell?_setCell_far _ _ _ _ (by show g ≠ g + 1; omega)).trans t0, (World.cell?_setCell_far _ _ _ _ (by show g ≠ g + 3; omega)).trans t1, (World.cell?_setCell_far _ _ _ _ (by show g ≠ b; omega)).trans t2, (World.cell?_setCell_far _ _ _ _ (by show g ≠ b; omega)).trans t3, (World.cell?_setCell_far _ _ _ _ (by show g ≠ b; omega)).trans t4, (World.cell?_setCell_other (w := W2) (a := ⟨g, X.toNat, none⟩) (b := ⟨g, Y.toNat, none⟩) (h := hXY) (v := _)).trans t5, cell?_setCell_some t6, (show (World.setCell _ _ _).frozen? _ = false from by rw [World.frozen?_setCell]; exact t7), cell?_setCell_some t8, (show (World.setCell _ _ _).frozen? _ = false from by rw [World.frozen?_setCell]; exact t9)⟩ (fun hHeld => ?_)
  clear hK K
  refine pure_ (i := 17) (N := some 41) (v := ?_) (a' := ?_) #[true, true, true, true, true, true, true, true, true, true, true, true, true, true, true, true, true, true, false] rfl rfl (by kernel_rfl) (fun _ _ _ h => h) (Or.inl ⟨by rfl, ?_⟩) ?_ ?_
  rotate_left
  · intro w'
    go_simp
    with_reducible rfl
  rotate_left
  · simp only [Act.put, List.setIfInBounds_toArray, List.set_cons_zero, List.set_cons_succ, i64_w, i32_w]
    rfl
  refine one_ (i := 18) (N := none) #[true, true, true, true, true, true, true, true, true, true, true, true, true, true, true, true, true, true, true] rfl rfl (by kernel_rfl) (by decide) (fun K hK => ?_)
  obtain ⟨t0, t1, t2, t3, t4, t5, ⟨u6, t6⟩, t7, ⟨u8, t8⟩, t9⟩ := hHeld
  refine skip_ (w1 := ?_) (by rfl) rfl ?_ ?_
  rotate_left
  · go_simp
    rfl
  refine hK.out _ _ ⟨(World.cell?_setCell_far _ _ _ _ (by show g + 2 ≠ g + 1; omega)).trans t0, (World.cell?_setCell_far _ _ _ _ (by show g + 2 ≠ g + 3; omega)).trans t1, (World.cell?_setCell_far _ _ _ _ (by show g + 2 ≠ b; omega)).trans t2, (World.cell?_setCell_far _ _ _ _ (by show g + 2 ≠ b; omega)).trans t3, (World.cell?_setCell_far _ _ _ _ (by show g + 2 ≠ b; omega)).trans t4, (World.cell?_setCell_far _ _ _ _ (by show g + 2 ≠ g; omega)).trans t5, cell?_setCell_some t6, (show (World.setCell _ _ _).frozen? _ = false from by rw [World.frozen?_setCell]; exact t7), cell?_setCell_some t8, (show (World.setCell _ _ _).frozen? _ = false from by rw [World.frozen?_setCell]; exact t9)⟩ (fun hHeld => ?_)
  clear hK K
  refine done_ (by kernel_rfl) ?_
  go_wp2
  go_ret
  have hfin := ((HS2.out.setx X (wrap64 (vy + C))).sety X i).drewN 1
  rw [HEQ.out.1, HEQ.out.2]
  exact ⟨rfl, hfin, fun k hk h1 h2 => ((Below.heap_setCell _ ⟨g + 2, X.toNat, none⟩ _ k h2).trans (Below.heap_setCell _ ⟨g, X.toNat, none⟩ _ k h1)).trans (HK2.out k hk)⟩
def diff_Solve.low (l : List S36) (i : Int) (s : List Int × List Int × Int) : List Int × List Int × Int :=
  if diff_Solve.lowers l s.1 i = true then (s.1.set (rd_T36 l i).f0.toNat (diff_Solve.sum l s.1 i), s.2.1.set (rd_T36 l i).f0.toNat i, (rd_T36 l i).f0) else s
def diff_Solve.pass (l : List S36) (x y : List Int) : Nat → List Int × List Int × Int
  | 0 => (x, y, -1)
  | j + 1 => diff_Solve.low l (j : Int) (diff_Solve.pass l x y j)
def diff_Solve.rnds (l : List S36) : Nat → List Int → List Int → Int → List Int × List Int × Int
  | 0, x, y, last => (x, y, last)
  | m + 1, x, y, _ => if (diff_Solve.pass l x y l.length).2.2 < 0 then diff_Solve.pass l x y l.length else diff_Solve.rnds l m (diff_Solve.pass l x y l.length).1 (diff_Solve.pass l x y l.length).2.1 (diff_Solve.pass l x y l.length).2.2
def diff_Solve.okd (n : Int) (d : S36) : Prop := 0 ≤ d.f0 ∧ 0 ≤ d.f1 ∧ d.f0 < n ∧ d.f1 < n
def diff_Solve.okAll (n : Int) (l : List S36) : Prop := ∀ i : Nat, i < l.length → diff_Solve.okd n (rd_T36 l (i : Int))
def diff_Solve.neAll (l : List S36) : Prop := ∀ i : Nat, i < l.length → (rd_T36 l (i : Int)).f0 ≠ (rd_T36 l (i : Int)).f1
def diff_Solve.end_ (l : List S36) (n : Nat) : List Int × List Int × Int := diff_Solve.rnds l (n + 1) (List.replicate n 0) (List.replicate n (-1)) (-1)
def diff_Solve.okB (n : Int) (l : List S36) : Bool := l.all fun d => decide (0 ≤ d.f0 ∧ 0 ≤ d.f1 ∧ d.f0 < n ∧ d.f1 < n)
def diff_Solve.neB (l : List S36) : Bool := l.all fun d => decide (d.f0 ≠ d.f1)
theorem diff_Solve.all_iff (l : List S36) (p : S36 → Bool) : l.all p = true ↔ ∀ i : Nat, i < l.length → p (rd_T36 l (i : Int)) = true := by
  rw [List.all_eq_true]
  have hg : ∀ i (h : i < l.length), rd_T36 l (i : Int) = l[i] := fun i h => by
    unfold rd_T36; rw [Int.toNat_natCast, List.getD_eq_getElem?_getD, List.getElem?_eq_getElem h]; rfl
  constructor
  · intro h i hi; rw [hg i hi]; exact h _ (List.getElem_mem hi)
  · intro h x hx
    obtain ⟨i, hi, rfl⟩ := List.getElem_of_mem hx
    rw [← hg i hi]; exact h i hi
theorem diff_Solve.okB_iff {n : Int} {l : List S36} : diff_Solve.okB n l = true ↔ diff_Solve.okAll n l := by
  unfold diff_Solve.okB diff_Solve.okAll diff_Solve.okd
  rw [diff_Solve.all_iff]
  exact forall_congr' fun i => forall_congr' fun h => decide_eq_true_iff
theorem diff_Solve.neB_iff {l : List S36} : diff_Solve.neB l = true ↔ diff_Solve.neAll l := by
  unfold diff_Solve.neB diff_Solve.neAll
  rw [diff_Solve.all_iff]
  exact forall_congr' fun i => forall_congr' fun h => decide_eq_true_iff
def diff_Solve.f (k : Nat) (a0 : Int) (l0 : List S36) : Option (List Int × List Int × Bool) :=
  if a0 < 0 ∨ 32 < a0 then some ([], [], false)
  else if diff_Solve.okB a0 l0 = true then
    (if diff_Solve.neB l0 = true then
      (if (diff_Solve.end_ l0 a0.toNat).2.2 < 0 then some ((diff_Solve.end_ l0 a0.toNat).1, [], true)
      else (diff_cycle.f k l0 (diff_Solve.end_ l0 a0.toNat).2.1 (diff_Solve.end_ l0 a0.toNat).2.2).bind fun c => some ([], c, false))
    else none)
  else some ([], [], false)
theorem diff_Solve.mono : ∀ a0 a1 k, LeO (diff_Solve.f k a0 a1) (diff_Solve.f (k + 1) a0 a1) := by
  intro a0 a1 k r h
  unfold diff_Solve.f at h ⊢
  by_cases c1 : a0 < 0 ∨ 32 < a0
  · rw [if_pos c1] at h ⊢; exact h
  rw [if_neg c1] at h ⊢
  by_cases c2 : diff_Solve.okB a0 a1 = true
  · rw [if_pos c2] at h ⊢
    by_cases c3 : diff_Solve.neB a1 = true
    · rw [if_pos c3] at h ⊢
      by_cases c4 : (diff_Solve.end_ a1 a0.toNat).2.2 < 0
      · rw [if_pos c4] at h ⊢; exact h
      · rw [if_neg c4] at h ⊢
        exact LeO.bind (diff_cycle.mono _ _ _ _) (fun _ => LeO.refl _) r h
    · rw [if_neg c3] at h; exact absurd h (by simp)
  · rw [if_neg c2] at h ⊢; exact h
def diff_Solve.Post (w : World) (r1 r2 : List Int) (r3 : Bool) (e : Ending) (w' : World) : Prop := ∃ v0_ v1_ : Value, e = .returned (.tuple #[v0_, v1_, .bool r3]) ∧ Kd.R (Kd.int .i64) 3 w' w.heap.size (fun k_ => some k_ ≠ (v1_ : Value).ownBlock) v0_ r1 ∧ Kd.R (Kd.int .i64) 3 w' w.heap.size (fun k_ => some k_ ≠ (v0_ : Value).ownBlock) v1_ r2 ∧ Below w.heap.size w w'
theorem diff_Solve.post_nil (w w' : World) (h : Below w.heap.size w w') : diff_Solve.Post w [] [] false (.returned (.tuple #[.slice none 0 0, .slice none 0 0, .bool false])) w' :=
  ⟨_, _, rfl, Kd.R_nil _ _ _ _ _, Kd.R_nil _ _ _ _ _, h⟩
set_option maxHeartbeats 8000000 in
set_option maxRecDepth 100000 in
theorem diff_Solve.calls_out (n : Int) (A1 : Option Addr) (c1 : Nat) (l : List S36) (w : World) (hn : n < 0 ∨ 32 < n) :
    Calls Try.prog 14 #[.int .i64 n, .slice A1 l.length c1] w (diff_Solve.Post w [] [] false) := by
  rcases hn with hn | hn
  · go_enter Try.func14, Try.ntmps14
    go_wp2
    go_step3
    go_wp2
    rw [Exit.noGoto_ret]
    go_ret3
    exact diff_Solve.post_nil _ _ (below_alloc (Below.refl _ _) _)
  · have hn2 : ¬ n < 0 := by omega
    go_enter Try.func14, Try.ntmps14
    go_wp2
    go_step3
    go_wp2
    rw [Exit.noGoto_ret]
    go_ret3
    exact diff_Solve.post_nil _ _ (below_alloc (Below.refl _ _) _)
theorem diff_Solve.made (W : World) (m : Nat) (hm : m ≤ 32) :
    Kd.R (Kd.int .i64) 3 (W.alloc (.cells (madeCells #[.int .i64 0] m) 3)) 0 (fun k => k = W.heap.size) (.slice (some ⟨W.heap.size, 0, none⟩) m m) (List.replicate m (0 : Int)) := by
  exact Kd.R_of_own (own_made' W 0 3 .i64 m (Nat.zero_le _) (by omega)) (fun k hk => by simpa [Value.ownBlock, eq_comm] using hk)
theorem diff_Solve.raise {W : World} {g n c base : Nat} {ok ok' : Nat → Prop} {x : List Int} (h : Kd.R (Kd.int .i64) 3 W 0 ok (.slice (some ⟨g, 0, none⟩) n c) x) (hb : base ≤ g) (hok : ok' g) : Kd.R (Kd.int .i64) 3 W base ok' (.slice (some ⟨g, 0, none⟩) n c) x := by
  have ho := Kd.own_of_R (h1 := fun _ => rfl) (enc := Value.int .i64) h
  refine Kd.R_of_own (h1 := fun _ => rfl) (enc := Value.int .i64) ⟨ho.1, ?_⟩ (fun k hk => by
    have hgk : g = k := by simpa [Value.ownBlock] using hk
    rw [← hgk]; exact hok)
  rcases ho.2 with ⟨h1, _⟩ | ⟨g', cap, cur, h1, h2, h3⟩
  · exact absurd h1 (by simp)
  · refine .inr ⟨g', cap, cur, h1, ?_, h3⟩
    injection h1 with e1 _ _
    injection e1 with e1
    injection e1 with e1 _ _
    omega
theorem diff_Solve.fill (i n : Nat) (h : i < n) : (List.replicate i (-1 : Int) ++ List.replicate (n - i) 0).set i (-1) = List.replicate (i + 1) (-1) ++ List.replicate (n - (i + 1)) 0 := by
  rw [List.set_append_right i _ (by simp)]
  rw [show n - i = (n - (i + 1)) + 1 from by omega, List.replicate_succ, List.length_replicate, Nat.sub_self, List.set_cons_zero, List.replicate_succ', List.append_assoc]
  rfl
theorem diff_Solve.start {w wr : World} {l : List S36} {A1 : Option Addr} {c1 : Nat} (n : Nat) (hn : n ≤ 32) (hb : wr.heap[w.heap.size]? = some (.cells #[.slice A1 l.length c1] 22 (0, 0))) (hB : Below w.heap.size w wr) :
    diff_Solve.St w ((((wr.alloc (Obj.cells (madeCells #[Value.int IntKind.i64 0] n) 3)).alloc (Obj.cells #[Value.slice (some ⟨wr.heap.size, 0, none⟩) n n] 25)).alloc (Obj.cells (madeCells #[Value.int IntKind.i64 0] n) 3)).alloc (Obj.cells #[Value.slice (some ⟨wr.heap.size + 1 + 1, 0, none⟩) n n] 25)) l A1 c1 w.heap.size wr.heap.size n (List.replicate n 0) (List.replicate n 0) := by
  have hs := hB.size
  have hlt := lt_of_block hb
  refine ⟨blk_alloc (blk_alloc (blk_alloc (blk_alloc hb _) _) _) _, ?_, ?_, ?_, ?_, by simp, by simp, hlt, hs, below_alloc (below_alloc (below_alloc (below_alloc hB _) _) _) _⟩
  · exact blk_alloc (blk_alloc (by have h := blk_new (wr.alloc (Obj.cells (madeCells #[Value.int IntKind.i64 0] n) 3)) (Obj.cells #[Value.slice (some ⟨wr.heap.size, 0, none⟩) n n] 25); simpa using h) _) _
  · have h := blk_new (((wr.alloc (Obj.cells (madeCells #[Value.int IntKind.i64 0] n) 3)).alloc (Obj.cells #[Value.slice (some ⟨wr.heap.size, 0, none⟩) n n] 25)).alloc (Obj.cells (madeCells #[Value.int IntKind.i64 0] n) 3)) (Obj.cells #[Value.slice (some ⟨wr.heap.size + 1 + 1, 0, none⟩) n n] 25)
    simpa using h
  · exact Kd.R_alloc (Kd.R_alloc (Kd.R_alloc (diff_Solve.made wr n hn) _) _) _
  · have h := diff_Solve.made ((wr.alloc (Obj.cells (madeCells #[Value.int IntKind.i64 0] n) 3)).alloc (Obj.cells #[Value.slice (some ⟨wr.heap.size, 0, none⟩) n n] 25)) n hn
    exact Kd.R_alloc (by simpa using h) _
theorem diff_Solve.fin_yes {k : Nat} {w W : World} {l : List S36} {A1 : Option Addr} {c1 bl g n : Nat} {x y : List Int} {last : Int} {r1 r2 : List Int} {r3 : Bool} (h : diff_Solve.St w W l A1 c1 bl g n x y) (he : (x, y, last) = diff_Solve.end_ l n) (hlt : last < 0)
    (hg : (diff_Solve.end_ l n).2.2 < 0 → r1 = (diff_Solve.end_ l n).1 ∧ r2 = [] ∧ r3 = true) : diff_Solve.Post w r1 r2 r3 (.returned (.tuple #[.slice (some ⟨g, 0, none⟩) n n, .slice none 0 0, .bool true])) W := by
  rw [← he] at hg
  obtain ⟨e1, e2, e3⟩ := hg hlt
  subst e2 e3
  rw [e1]
  exact ⟨_, _, rfl, diff_Solve.raise h.2.2.2.1 h.2.2.2.2.2.2.2.2.1 (by simp [Value.ownBlock]), Kd.R_nil _ _ _ _ _, h.2.2.2.2.2.2.2.2.2⟩
theorem diff_Solve.fin_no {w W W' : World} {l : List S36} {A1 : Option Addr} {c1 bl g n : Nat} {x y : List Int} {r1 r2 : List Int} {r3 : Bool} {v : Value} (h : diff_Solve.St w W l A1 c1 bl g n x y) (h1 : r1 = []) (h3 : r3 = false) (hb : Below W.heap.size W W') (hR : Kd.R (Kd.int .i64) 3 W' W.heap.size (fun _ => True) v r2) :
    diff_Solve.Post w r1 r2 r3 (.returned (.tuple #[.slice none 0 0, v, .bool false])) W' := by
  subst h1 h3
  have hB := h.2.2.2.2.2.2.2.2.2
  exact ⟨_, _, rfl, Kd.R_nil _ _ _ _ _, Kd.R_mono (Kd.R_lower hR hB.size) (fun _ _ => by simp [Value.ownBlock]), below_step hB hb⟩
theorem diff_Solve.by_reads {w W : World} {l : List S36} {A1 : Option Addr} {c1 bl g n : Nat} {x y : List Int} (h : diff_Solve.St w W l A1 c1 bl g n x y) : Kd.C (Kd.int .i64) W (some ⟨g + 2, 0, none⟩) y.length y := by
  obtain ⟨A, c, e, _, hr⟩ := Kd.R_reads h.2.2.2.2.1
  injection e with e1 e2 e3
  subst e1
  exact hr
set_option maxHeartbeats 8000000 in
set_option maxRecDepth 100000 in
theorem diff_Solve.calls_in (k : Nat) (n : Nat) (hn : n ≤ 32) (A1 : Option Addr) (c1 : Nat) (l : List S36) (r1 r2 : List Int) (r3 : Bool) (w : World) (hr1 : Kd.C k36 w A1 l.length l) (hc1 : l.length ≤ c1)
    (hbad : ¬ diff_Solve.okAll (n : Int) l → r1 = [] ∧ r2 = [] ∧ r3 = false)
    (hgood : diff_Solve.okAll (n : Int) l → diff_Solve.neAll l ∧ ((diff_Solve.end_ l n).2.2 < 0 → r1 = (diff_Solve.end_ l n).1 ∧ r2 = [] ∧ r3 = true) ∧ (¬ (diff_Solve.end_ l n).2.2 < 0 → r1 = [] ∧ r3 = false ∧ diff_cycle.f k l (diff_Solve.end_ l n).2.1 (diff_Solve.end_ l n).2.2 = some r2)) :
    Calls Try.prog 14 #[.int .i64 (n : Int), .slice A1 l.length c1] w (diff_Solve.Post w r1 r2 r3) := by
  have hl : l.length ≤ 9223372036854775807 := hr1.2.1
  have HR1 := Aside0.mk hr1
  have HC1 := Aside0.mk hc1
  have HBAD := Aside0.mk hbad
  have HGOOD := Aside0.mk hgood
  clear hr1 hc1 hbad hgood
  obtain ⟨i0, hi, hzz⟩ := Option.map_eq_some_iff.1 info3
  simp only [Prod.mk.injEq] at hzz
  obtain ⟨hz, hs, hby⟩ := hzz
  have hmk : ∀ W : World, (Instr.makeSlice 25 (.int .i64 (n : Int)) (.int .i64 (n : Int))).run Try.prog W = .ok (.slice (some ⟨W.heap.size, 0, none⟩) n n) (W.alloc (.cells (madeCells #[.int .i64 0] n) 3)) := by
    intro W
    have h := run_make (P := Try.prog) W 25 3 i0 (.int .i64 0) Try.underlying25 hi hz .i64 .i64 (n : Int) (n : Int) (by omega) (by omega) (by rw [hby]; omega) (by omega)
    rw [hs, Nat.mul_one, Int.toNat_natCast] at h
    exact h
  clear hi hz hs hby
  have HMK := Aside0.mk hmk
  clear hmk
  have hn32 : ((n : Int) > 32) = False := eq_false (by omega)
  have HB := Aside0.mk (Below.refl w.heap.size w)
  go_enter Try.func14, Try.ntmps14
  go_wp2
  go_step3
  go_wp2
  go_loopw [25] (fun v wr => ∃ (j : Nat), v = .int .i64 (j : Int) ∧ j ≤ l.length ∧ Aside0 (∀ i : Nat, i < j → diff_Solve.okd (n : Int) (rd_T36 l (i : Int))) ∧ Aside0 (wr.heap[w.heap.size]? = some (.cells #[.slice A1 l.length c1] 22 (0, 0))) ∧ Aside0 (Below w.heap.size w wr)) (fun v _ => l.length - (intOf v).toNat)
  case atStart => exact ⟨0, rfl, by omega, ⟨fun i hi => by omega⟩, ⟨blk_new _ _⟩, ⟨(by repeat (first | (with_reducible first | exact HB.out | apply below_alloc | apply pw_below_drewN | apply below_drew1) | exact HB.out))⟩⟩
  case round =>
    clear HB
    obtain ⟨j, rfl, hj, HOK, HBL, HB⟩ := hrel
    by_cases hlt : j < l.length
    · obtain ⟨ad, e27, hc0, hc1, hc2⟩ := at_T36 HR1.out (j : Int) (by omega) (by omega)
      subst e27
      replace hc0 := (HB.out.cell (World.block_lt_of_cell? w _ hc0)).trans hc0
      replace hc1 := (HB.out.cell (World.block_lt_of_cell? w _ hc1)).trans hc1
      replace hc2 := (HB.out.cell (World.block_lt_of_cell? w _ hc2)).trans hc2
      obtain ⟨d, hd⟩ : ∃ d, d = rd_T36 l (j : Int) := ⟨_, rfl⟩
      rw [← hd] at hc0 hc1 hc2
      have HD := Aside0.mk hd
      clear hd
      obtain ⟨X, Y, C⟩ := d
      simp only [Int.toNat_natCast] at hc0 hc1 hc2
      have HRET : Aside0 (∀ w' : World, Below w.heap.size w w' → ¬ diff_Solve.okd (n : Int) ⟨X, Y, C⟩ → diff_Solve.Post w r1 r2 r3 (.returned (.tuple #[.slice none 0 0, .slice none 0 0, .bool false])) w') := ⟨fun w' hb' hno => by
        obtain ⟨e1, e2, e3⟩ := HBAD.out (fun h => hno (by have h2 := h j hlt; rw [← HD.out] at h2; exact h2))
        rw [e1, e2, e3]; exact diff_Solve.post_nil w w' hb'⟩
      have hlt' : ((j : Int) < (l.length : Int)) = True := eq_true (by omega)
      go_wp2
      all_goals first
        | (go_roundw
           case rel => exact ⟨j + 1, rfl, by omega, ⟨fun i hi => by
             by_cases e : i = j
             · subst e; rw [← HD.out]; exact ⟨by simp only; omega, by simp only; omega, by simp only; omega, by simp only; omega⟩
             · exact HOK.out i (by omega)⟩, ⟨blk_below HBL.out (below_alloc (Below.refl _ _) _)⟩, ⟨(by repeat (first | (with_reducible first | exact HB.out | apply below_alloc | apply pw_below_drewN | apply below_drew1) | exact HB.out))⟩⟩
           case measure => simp [intOf]; omega)
        | ((try rw [Exit.noGoto_ret])
           go_ret3
           exact HRET.out _ (by repeat (first | (with_reducible first | exact HB.out | apply below_alloc | apply pw_below_drewN | apply below_drew1) | exact HB.out)) (by unfold diff_Solve.okd; simp only; omega))
    · have hlt' : ((j : Int) < (l.length : Int)) = False := eq_false (by omega)
      have hall : diff_Solve.okAll (n : Int) l := fun i hi => HOK.out i (by omega)
      obtain ⟨hne, hg1, hg2⟩ := HGOOD.out hall
      have HALL := Aside0.mk hall
      have HNE := Aside0.mk hne
      have HG1 := Aside0.mk hg1
      have HG2 := Aside0.mk hg2
      clear hall hne hg1 hg2 HBAD HGOOD HOK
      have hmk := HMK.out
      have hjl : j = l.length := by omega
      go_wp2
      have hst := diff_Solve.start (w := w) (wr := wr) (l := l) (A1 := A1) (c1 := c1) n hn HBL.out HB.out
      obtain ⟨W4, hW4⟩ : ∃ W4, W4 = ((((wr.alloc (Obj.cells (madeCells #[Value.int IntKind.i64 0] n) 3)).alloc (Obj.cells #[Value.slice (some ⟨wr.heap.size, 0, none⟩) n n] 25)).alloc (Obj.cells (madeCells #[Value.int IntKind.i64 0] n) 3)).alloc (Obj.cells #[Value.slice (some ⟨wr.heap.size + 1 + 1, 0, none⟩) n n] 25)) := ⟨_, rfl⟩
      rw [← hW4] at hst ⊢
      obtain ⟨g, hg⟩ : ∃ g, g = wr.heap.size := ⟨_, rfl⟩
      rw [← hg] at hst ⊢
      rw [show g + 1 + 1 + 1 = g + 3 from rfl, show g + 1 + 1 = g + 2 from rfl]
      have HST := Aside0.mk hst
      clear hst hW4 hg hmk HBL HB hlt' hlt hjl hj
      go_loopw [57] (fun v wq => ∃ (i : Nat), v = .int .i64 (i : Int) ∧ i ≤ n ∧ Aside0 (diff_Solve.St w wq l A1 c1 w.heap.size g n (List.replicate n 0) (List.replicate i (-1) ++ List.replicate (n - i) 0))) (fun v _ => n - (intOf v).toNat)
      case atStart => exact ⟨0, rfl, by omega, ⟨by simpa using HST.out⟩⟩
      case round =>
        clear HST
        obtain ⟨i, rfl, hi, HST⟩ := hrel
        by_cases hlt : i < n
        · have hlt' : ((i : Int) < (n : Int)) = True := eq_true (by omega)
          obtain ⟨q1, q2, q3, q4, q5, q6, q7, q8, q9, q10⟩ := HST.out
          have e3 := cell_of_one q3
          obtain ⟨hx, hf⟩ := Kd.R_celln 0 q5 (i : Int) (by omega) (by omega)
          rw [Int.toNat_natCast] at hx hf
          clear q1 q2 q3 q4 q5 q6 q7 q8 q9 q10
          go_wp2
          go_roundw
          case rel =>
            have h2 := HST.out.sety (i : Int) (-1)
            rw [Int.toNat_natCast] at h2
            exact ⟨i + 1, rfl, by omega, ⟨by rw [diff_Solve.fill i n hlt] at h2; exact h2⟩⟩
          case measure => simp [intOf]; omega
        · obtain rfl : n = i := by omega
          have hlt' : ((n : Int) < (n : Int)) = False := eq_false (by omega)
          have hst : diff_Solve.St w wr l A1 c1 w.heap.size g n (List.replicate n 0) (List.replicate n (-1)) := by simpa using HST.out
          have HST := Aside0.mk hst
          clear hst
          go_wp2
          go_step3
          go_wp2
          clear hlt' hi
          go_loopw [13, 14] (fun v13 v14 wq => ∃ (r : Nat) (x y : List Int) (last : Int), v13 = .int .i64 last ∧ v14 = .int .i64 (r : Int) ∧ r ≤ n + 1 ∧ Aside0 (diff_Solve.St w wq l A1 c1 w.heap.size g n x y) ∧ Aside0 (diff_Solve.rnds l (n + 1 - r) x y last = diff_Solve.end_ l n)) (fun _ v14 _ => n + 1 - (intOf v14).toNat)
          case atStart => exact ⟨0, _, _, -1, rfl, rfl, by omega, HST, ⟨rfl⟩⟩
          case round =>
            clear HST
            obtain ⟨r, x, y, last, rfl, rfl, hr, HST, HEND⟩ := hrel
            by_cases hlt : r ≤ n
            · have hlt' : ((r : Int) ≤ (n : Int)) = True := eq_true (by omega)
              have e1 := cell_of_one HST.out.1
              go_wp2
              go_loopw [13, 72] (fun v13 v72 wq => ∃ (j : Nat), v13 = .int .i64 (diff_Solve.pass l x y j).2.2 ∧ v72 = .int .i64 (j : Int) ∧ j ≤ l.length ∧ Aside0 (diff_Solve.St w wq l A1 c1 w.heap.size g n (diff_Solve.pass l x y j).1 (diff_Solve.pass l x y j).2.1)) (fun _ v72 _ => l.length - (intOf v72).toNat)
              case atStart => exact ⟨0, rfl, rfl, by omega, HST⟩
              case round =>
                clear HST e1
                obtain ⟨q, rfl, rfl, hq, HST⟩ := hrel
                by_cases hlq : q < l.length
                · obtain ⟨ad, e27, hc0, hc1, hc2⟩ := at_T36 HR1.out (q : Int) (by omega) (by omega)
                  subst e27
                  have hB := HST.out.2.2.2.2.2.2.2.2.2
                  replace hc0 := (hB.cell (World.block_lt_of_cell? w _ hc0)).trans hc0
                  replace hc1 := (hB.cell (World.block_lt_of_cell? w _ hc1)).trans hc1
                  replace hc2 := (hB.cell (World.block_lt_of_cell? w _ hc2)).trans hc2
                  simp only [Int.toNat_natCast] at hc0 hc1 hc2
                  clear hB
                  have hlq' : ((q : Int) < (l.length : Int)) = True := eq_true (by omega)
                  have hok := HALL.out q hlq
                  obtain ⟨o1, o2, o3, o4⟩ := hok
                  have hne := HNE.out q hlq
                  have HO := Aside0.mk (And.intro o1 (And.intro o2 (And.intro o3 (And.intro o4 hne))))
                  clear o1 o2 o3 o4 hne
                  cases hlow : diff_Solve.lowers l (diff_Solve.pass l x y q).1 (q : Int) with
                  | false =>
                    have HLOW := Aside0.mk hlow
                    clear hlow
                    go_wp2_with fail
                    refine (diff_Solve.low_no w _ l (some ad) c1 w.heap.size g n _ _ (HST.out.alloc _) HR1.out (q : Int) (by omega) (by omega) HO.out.1 HO.out.2.2.1 HO.out.2.1 HO.out.2.2.2.1 HLOW.out).mono ?_
                    rintro e w' ⟨rfl, hst, hkeep⟩
                    have HST' := Aside0.mk hst
                    clear hst hkeep HST
                    go_wp2
                    go_roundw
                    case rel =>
                      have hp : diff_Solve.pass l x y (q + 1) = diff_Solve.pass l x y q := by
                        show diff_Solve.low l (q : Int) _ = _
                        unfold diff_Solve.low; rw [HLOW.out]; rfl
                      exact ⟨q + 1, by rw [hp], rfl, by omega, by rw [hp]; exact HST'⟩
                    case measure => simp [intOf]; omega
                  | true =>
                    have HLOW := Aside0.mk hlow
                    clear hlow
                    go_wp2_with fail
                    have HLT := Aside0.mk (lt_of_block HST.out.2.2.1)
                    refine (diff_Solve.low_yes w _ l (some ad) c1 w.heap.size g n _ _ (HST.out.alloc _) HR1.out (q : Int) (by omega) (by omega) HO.out.1 HO.out.2.2.1 HO.out.2.1 HO.out.2.2.2.1 HO.out.2.2.2.2 HLOW.out).mono ?_
                    rintro e w' ⟨rfl, hst, hkeep⟩
                    have HST' := Aside0.mk hst
                    have hbx := (hkeep wr.heap.size (by simp) (by have := HLT.out; omega) (by have := HLT.out; omega)).trans (blk_new wr _)
                    have hx81 : w'.cell? ⟨wr.heap.size, 0, none⟩ = some (.int .i64 (rd_T36 l (q : Int)).f0) := by simp [World.cell?, hbx]
                    clear hst hkeep HST hbx HLT
                    go_wp2
                    go_roundw
                    case rel =>
                      have hp : diff_Solve.pass l x y (q + 1) = ((diff_Solve.pass l x y q).1.set (rd_T36 l (q : Int)).f0.toNat (diff_Solve.sum l (diff_Solve.pass l x y q).1 (q : Int)), (diff_Solve.pass l x y q).2.1.set (rd_T36 l (q : Int)).f0.toNat (q : Int), (rd_T36 l (q : Int)).f0) := by
                        show diff_Solve.low l (q : Int) _ = _
                        unfold diff_Solve.low; rw [HLOW.out]; rfl
                      exact ⟨q + 1, by rw [hp], rfl, by omega, by rw [hp]; exact HST'⟩
                    case measure => simp [intOf]; omega
                · obtain rfl : q = l.length := by omega
                  have hlq' : ((l.length : Int) < (l.length : Int)) = False := eq_false (by omega)
                  by_cases hbr : (diff_Solve.pass l x y l.length).2.2 < 0
                  · have hbr' := eq_true hbr
                    have HE : Aside0 (diff_Solve.pass l x y l.length = diff_Solve.end_ l n) := ⟨by
                      have h := HEND.out
                      rw [show n + 1 - r = (n - r) + 1 from by omega] at h
                      rw [← h, diff_Solve.rnds, if_pos hbr]⟩
                    clear hbr
                    have e9 := cell_of_one HST.out.2.1
                    go_wp2
                    rw [Exit.noGoto_ret]
                    go_ret3
                    exact diff_Solve.fin_yes (k := k) HST.out HE.out (of_eq_true hbr') HG1.out
                  · have hbr' := eq_false hbr
                    have HEND' : Aside0 (diff_Solve.rnds l (n + 1 - (r + 1)) (diff_Solve.pass l x y l.length).1 (diff_Solve.pass l x y l.length).2.1 (diff_Solve.pass l x y l.length).2.2 = diff_Solve.end_ l n) := ⟨by
                      have h := HEND.out
                      rw [show n + 1 - r = (n - r) + 1 from by omega] at h
                      rw [← h, diff_Solve.rnds, if_neg hbr, show n + 1 - (r + 1) = n - r from by omega]⟩
                    clear hbr
                    go_wp2
                    go_roundw
                    case rel => exact ⟨r + 1, _, _, _, rfl, rfl, by omega, HST, HEND'⟩
                    case measure => simp [intOf]; omega
            · have hlt' : ((r : Int) ≤ (n : Int)) = False := eq_false (by omega)
              have HE : Aside0 ((x, y, last) = diff_Solve.end_ l n) := ⟨by
                have h := HEND.out
                rw [show n + 1 - r = 0 from by omega] at h
                exact h⟩
              by_cases hbr : last < 0
              · have hbr' := eq_true hbr
                clear hbr
                have e9 := cell_of_one HST.out.2.1
                go_wp2
                rw [Exit.noGoto_ret]
                go_ret3
                exact diff_Solve.fin_yes (k := k) HST.out HE.out (of_eq_true hbr') HG1.out
              · have hbr' := eq_false hbr
                clear hbr
                have e9 := cell_of_one HST.out.1
                have e10 := cell_of_one HST.out.2.2.1
                have HG2' := Aside0.mk (HG2.out (by have h_ := of_eq_false hbr'; rw [← HE.out]; show (0 : Int) ≤ last; omega))
                go_wp2_with fail
                refine calls_of_args (args' := #[.slice A1 l.length c1, .slice (some ⟨g + 2, 0, none⟩) y.length n, .int .i64 last]) (by rw [HST.out.2.2.2.2.2.2.1]) ?_
                refine (diff_cycle.calls k A1 c1 l _ n y last r2 _ (Kd.C_below HR1.out HST.out.2.2.2.2.2.2.2.2.2) HC1.out (diff_Solve.by_reads HST.out) (by have := HST.out.2.2.2.2.2.2.1; omega) (by have h := HG2'.out.2.2; rw [← HE.out] at h; exact h)).mono ?_
                rintro e w' ⟨v, rfl, hR, hb⟩
                have HRR := Aside0.mk hR
                have HBB := Aside0.mk hb
                clear hR hb
                go_wp2
                rw [Exit.noGoto_ret]
                go_ret3
                exact diff_Solve.fin_no HST.out HG2'.out.1 HG2'.out.2.1 HBB.out HRR.out
theorem diff_Solve.calls (k : Nat) (a0 : Int) (A1 : Option Addr) (c1 : Nat) (l1 : List S36) (r1 r2 : List Int) (r3 : Bool) (w : World) (hr1 : Kd.C k36 w A1 l1.length l1) (hc1 : l1.length ≤ c1) (h : diff_Solve.f k a0 l1 = some (r1, r2, r3)) :
    Calls Try.prog 14 #[.int .i64 a0, .slice A1 l1.length c1] w fun e w' => ∃ v0_ v1_ : Value, e = .returned (.tuple #[v0_, v1_, .bool r3]) ∧ Kd.R (Kd.int .i64) 3 w' w.heap.size (fun k_ => some k_ ≠ (v1_ : Value).ownBlock) v0_ r1 ∧ Kd.R (Kd.int .i64) 3 w' w.heap.size (fun k_ => some k_ ≠ (v0_ : Value).ownBlock) v1_ r2 ∧ Below w.heap.size w w' := by
  unfold diff_Solve.f at h
  by_cases c0 : a0 < 0 ∨ 32 < a0
  · rw [if_pos c0] at h
    obtain ⟨rfl, rfl, rfl⟩ : [] = r1 ∧ [] = r2 ∧ false = r3 := by simpa using h
    exact diff_Solve.calls_out a0 A1 c1 l1 w c0
  rw [if_neg c0] at h
  obtain ⟨n, rfl⟩ := Int.eq_ofNat_of_zero_le (by omega : 0 ≤ a0)
  rw [Int.toNat_natCast] at h
  refine diff_Solve.calls_in k n (by omega) A1 c1 l1 r1 r2 r3 w hr1 hc1 (fun hb => ?_) (fun hg => ?_)
  · rw [if_neg (by rw [diff_Solve.okB_iff]; exact hb)] at h
    obtain ⟨rfl, rfl, rfl⟩ : [] = r1 ∧ [] = r2 ∧ false = r3 := by simpa using h
    exact ⟨rfl, rfl, rfl⟩
  · rw [if_pos (by rw [diff_Solve.okB_iff]; exact hg)] at h
    by_cases c3 : diff_Solve.neAll l1
    · rw [if_pos (by rw [diff_Solve.neB_iff]; exact c3)] at h
      refine ⟨c3, fun hl => ?_, fun hl => ?_⟩
      · rw [if_pos hl] at h
        obtain ⟨e1, e2, e3⟩ : (diff_Solve.end_ l1 n).1 = r1 ∧ [] = r2 ∧ true = r3 := by simpa using h
        exact ⟨e1.symm, e2.symm, e3.symm⟩
      · rw [if_neg hl] at h
        obtain ⟨c, hc, h⟩ := Option.bind_eq_some_iff.mp h
        obtain ⟨e1, e2, e3⟩ : [] = r1 ∧ c = r2 ∧ false = r3 := by simpa using h
        exact ⟨e1.symm, e3.symm, by rw [← e2]; exact hc⟩
    · rw [if_neg (by rw [diff_Solve.neB_iff]; exact c3)] at h; exact absurd h (by simp)

end Go.Proofs.Ytolfnlamknmeaaa.MDiffGreatest
