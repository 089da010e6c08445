/- DiffEntails: what the law's own function does, step by step, at every system that the made problem may give. -/
import Derived.Test.YtolfnlamknmeaaaMDiffEntailsx
import Derived.Outline
import Derived.OneCell
namespace Go.Proofs.Ytolfnlamknmeaaa.MDiffEntails
open Go.RowKit Go.Proofs.YtolfnlamknmeaaaW.PrintWords Go.Proofs.YtolfnlamknmeaaaW.PrintLast Go.Proofs.YtolfnlamknmeaaaW.PrintMore
attribute [local go_sem] max2_int min2_int max_two min_two max_three min_three max_four min_four
set_option linter.unusedVariables false
set_option linter.unusedSimpArgs false
theorem interleavelaw32_DiffEntails.u8w (y : Int) : 0 ≤ wrap64 (IntKind.u8.wrap y) ∧ wrap64 (IntKind.u8.wrap y) ≤ 255 := by
  have h : IntKind.u8.wrap y = y % 256 := by simp [IntKind.wrap, IntKind.signed, IntKind.bits]
  rw [h]; unfold wrap64; omega
theorem interleavelaw32_DiffEntails.six (z : Int) (hz : -128 ≤ z ∧ z ≤ 127) : -5 ≤ wrap64 (z.tmod 6) ∧ wrap64 (z.tmod 6) ≤ 5 := by
  have h : -5 ≤ z.tmod 6 ∧ z.tmod 6 ≤ 5 := by
    by_cases h0 : 0 ≤ z
    · rw [Int.tmod_eq_emod_of_nonneg h0]; omega
    · rw [show z = -(-z) from by omega, Int.neg_tmod, Int.tmod_eq_emod_of_nonneg (by omega)]; omega
  rw [show wrap64 (z.tmod 6) = z.tmod 6 from by unfold wrap64; omega]
  exact h
set_option maxHeartbeats 8000000 in
set_option maxRecDepth 100000 in
theorem interleavelaw32_DiffEntails.calls (w : World) (s0 s1 s2 : Int) (A : Option Addr) (c : Nat) (L0 : List Int) (x : Int) (hx : -128 ≤ x ∧ x ≤ 127) (y : Int) (hy : -128 ≤ y ∧ y ≤ 127) (z : Int) (hz : -128 ≤ z ∧ z ≤ 127) (H : ∀ (n : Nat) (l : List S36), 2 ≤ n ∧ n ≤ 6 → l.length ≤ 52 → (∀ d ∈ l, interleavelaw32_system.okL n d) → ∀ (X Y C : Int), (0 ≤ X ∧ X < n) → (0 ≤ Y ∧ Y < n) → X ≠ Y → (-5 ≤ C ∧ C ≤ 5) → ∃ (k : Nat) (b : Bool), diff_Entails.f k (n : Int) l X Y C = some b ∧ interleaveref31_Entails.f k (n : Int) l X Y C = some b ∧ interleavelaw32_awake.f k = some true) (hr : Kd.C (Kd.int .u8) w A L0.length L0) (hc : L0.length ≤ c) (h0 : 0 ≤ s0 ∧ s0 ≤ 255) (h1 : 0 ≤ s1 ∧ s1 ≤ 255) (h2 : 0 ≤ s2 ∧ s2 ≤ 255) (hu : ∀ x ∈ L0, 0 ≤ x ∧ x ≤ 255) :
    Calls Try.prog 5 #[.agg #[.int .u8 s0, .int .u8 s1, .int .u8 s2, .slice A L0.length c], .int .i8 x, .int .i8 y, .int .i8 z] w fun e w' => e = .returned (.bool true) ∧ Below w.heap.size w w' := by
  have hu32 := Try.underlying32
  have HU := Aside0.mk hu
  have HR := Aside0.mk hr
  have HH := Aside0.mk H
  clear hr hu H
  go_enter Try.func5, Try.ntmps5
  go_wp2_with fail
  refine (interleavelaw32_system.calls (w.alloc _) s0 s1 s2 A c L0 (Kd.C_below HR.out (below_alloc (Below.refl _ _) _)) hc h0 h1 h2 HU.out).mono ?_
  rintro e w1 ⟨n0, vl, l, rfl, HRl, hn, hll, hl, HB1⟩
  obtain ⟨n, rfl⟩ : ∃ n : Nat, n0 = (n : Int) := ⟨n0.toNat, by omega⟩
  have HX := Aside0.mk (HH.out n l (by omega) hll hl)
  obtain ⟨A1, c1, rfl⟩ := Kd.R_slice HRl
  have HC := Aside0.mk (Kd.R_reads' HRl).2
  have HBw := Aside0.mk (below_step (below_alloc (Below.refl w.heap.size w) (.cells #[.int .u8 s0, .int .u8 s1, .int .u8 s2, .slice A L0.length c] 32)) HB1)
  clear HRl HB1 HU HR HH
  clear hl
  have hn0 : (n = 0) = False := eq_false (by omega)
  go_wp2_with fail
  obtain ⟨b, hb⟩ : ∃ b, b = w1.heap.size := ⟨_, rfl⟩
  obtain ⟨X, hX⟩ : ∃ X, X = x % 256 % (n : Int) := ⟨_, rfl⟩
  obtain ⟨C, hC⟩ : ∃ C, C = wrap64 (z.tmod 6) := ⟨_, rfl⟩
  have hX2 : 0 ≤ X ∧ X < n := by rw [hX]; exact ⟨Int.emod_nonneg _ (by omega), Int.emod_lt_of_pos _ (by omega)⟩
  have hC2 := interleavelaw32_DiffEntails.six z hz
  rw [← hC] at hC2
  rw [← hX, ← hC, ← hb]
  obtain ⟨W2, hW2⟩ : ∃ W2, W2 = w1.alloc (Obj.cells #[.int .i64 X, .int .i64 0, .int .i64 C] 36) := ⟨_, rfl⟩
  rw [← hW2]
  have HBK : Aside0 (W2.heap[b]? = some (.cells #[.int .i64 X, .int .i64 0, .int .i64 C] 36 (0, 0))) := ⟨by rw [hW2, hb]; exact blk_new _ _⟩
  have HB2 : Aside0 (Below w1.heap.size w1 W2) := ⟨by rw [hW2]; exact below_alloc (Below.refl _ _) _⟩
  have z0 : W2.cell? ⟨b, 0, none⟩ = some (.int .i64 X) := (blk_cell HBK.out 0).trans rfl
  have HBG : Aside0 (w1.heap.size ≤ b) := ⟨by omega⟩
  have hn1 : ((n : Int) - 1 = 0) = False := eq_false (by omega)
  have hwn : wrap64 ((n : Int) - 1) = (n : Int) - 1 := by unfold wrap64; omega
  have hwx : wrap64 (X + 1) = X + 1 := by unfold wrap64; omega
  clear hW2 hb hX hC
  refine start_ (n := 14) (S := fun w' => w'.cell? ⟨b, 0, none⟩ = some (.int .i64 X) ∧ Aside0 (Below w1.heap.size w1 w') ∧ Aside0 (w'.heap[b]? = some (.cells #[.int .i64 X, .int .i64 0, .int .i64 C] 36 (0, 0)))) (ds := [13]) #[false, false, false, false, false, false, false, false, false, false, false, false, false, false] (by kernel_rfl) rfl rfl ⟨z0, Aside0.mk (below_drew HB2.out), Aside0.mk (blk_drew HBK.out)⟩ (fun hHeld => ?_)
  refine pure_ (i := 0) (N := some 26) (v := ?_) (a' := ?_) #[true, false, false, false, false, false, false, false, false, false, false, false, false, false] rfl rfl (by kernel_rfl) (fun _ _ _ h => h) (Or.inl ⟨by rfl, ?_⟩) ?_ ?_
  rotate_left
  · intro w'
    go_simp
    with_reducible rfl
  rotate_left
  · simp only [Act.put, List.setIfInBounds_toArray, List.set_cons_zero, List.set_cons_succ, i64_w, i32_w]
    rfl
  refine pure_ (i := 3) (N := some 29) (v := ?_) (a' := ?_) #[true, false, false, true, false, false, false, false, false, false, false, false, false, false] rfl rfl (by kernel_rfl) (fun _ _ _ h => h) (Or.inl ⟨by rfl, ?_⟩) ?_ ?_
  rotate_left
  · intro w'
    go_simp
    with_reducible rfl
  rotate_left
  · simp only [Act.put, List.setIfInBounds_toArray, List.set_cons_zero, List.set_cons_succ, i64_w, i32_w]
    rfl
  refine pure_ (i := 4) (N := some 30) (v := ?_) (a' := ?_) #[true, false, false, true, true, false, false, false, false, false, false, false, false, false] rfl rfl (by kernel_rfl) (fun _ _ _ h => h) (Or.inl ⟨by rfl, ?_⟩) ?_ ?_
  rotate_left
  · intro w'
    go_simp
    with_reducible rfl
  rotate_left
  · simp only [Act.put, List.setIfInBounds_toArray, List.set_cons_zero, List.set_cons_succ, i64_w, i32_w]
    rfl
  refine pure_ (i := 5) (N := some 31) (v := ?_) (a' := ?_) #[true, false, false, true, true, true, false, false, false, false, false, false, false, false] rfl rfl (by kernel_rfl) (fun _ _ _ h => h) (Or.inl ⟨by rfl, ?_⟩) ?_ ?_
  rotate_left
  · intro w'
    go_simp
    with_reducible rfl
  rotate_left
  · simp only [Act.put, List.setIfInBounds_toArray, List.set_cons_zero, List.set_cons_succ, i64_w, i32_w]
    rfl
  refine pure_ (i := 6) (N := some 32) (v := ?_) (a' := ?_) #[true, false, false, true, true, true, true, false, false, false, false, false, false, false] rfl rfl (by kernel_rfl) (fun _ _ _ h => h) (Or.inl ⟨by rfl, ?_⟩) ?_ ?_
  rotate_left
  · intro w'
    go_simp
    with_reducible rfl
  rotate_left
  · simp only [Act.put, List.setIfInBounds_toArray, List.set_cons_zero, List.set_cons_succ, i64_w, i32_w]
    rfl
  refine pure_ (i := 7) (N := some 33) (v := ?_) (a' := ?_) #[true, false, false, true, true, true, true, true, false, false, false, false, false, false] rfl rfl (by kernel_rfl) (fun _ _ _ h => h) (Or.inl ⟨by rfl, ?_⟩) ?_ ?_
  rotate_left
  · intro w'
    go_simp
    with_reducible rfl
  rotate_left
  · simp only [Act.put, List.setIfInBounds_toArray, List.set_cons_zero, List.set_cons_succ, i64_w, i32_w]
    rfl
  refine pure_ (i := 8) (N := some 34) (v := ?_) (a' := ?_) #[true, false, false, true, true, true, true, true, true, false, false, false, false, false] rfl rfl (by kernel_rfl) (fun _ _ _ h => h) (Or.inl ⟨by rfl, ?_⟩) ?_ ?_
  rotate_left
  · intro w'
    go_simp
    with_reducible rfl
  rotate_left
  · simp only [Act.put, List.setIfInBounds_toArray, List.set_cons_zero, List.set_cons_succ, i64_w, i32_w]
    rfl
  refine pure_ (i := 10) (N := some 36) (v := ?_) (a' := ?_) #[true, false, false, true, true, true, true, true, true, false, true, false, false, false] rfl rfl (by kernel_rfl) (fun _ _ _ h => h) (Or.inl ⟨by rfl, ?_⟩) ?_ ?_
  rotate_left
  · intro w'
    go_simp
    with_reducible rfl
  rotate_left
  · simp only [Act.put, List.setIfInBounds_toArray, List.set_cons_zero, List.set_cons_succ, i64_w, i32_w]
    rfl
  refine take_ (i := 1) (N := some 27) (v := ?_) (a' := ?_) #[true, true, false, true, true, true, true, true, true, false, true, false, false, false] rfl rfl (by kernel_rfl) (fun _ _ _ h => h) (Or.inl ⟨by rfl, ?_⟩) hHeld ?_ ?_
  rotate_left
  · rintro w' ⟨s0, s1, s2⟩
    go_simp
    with_reducible rfl
  rotate_left
  · simp only [Act.put, List.setIfInBounds_toArray, List.set_cons_zero, List.set_cons_succ, i64_w, i32_w]
    rfl
  refine pure_ (i := 2) (N := some 28) (v := ?_) (a' := ?_) #[true, true, true, true, true, true, true, true, true, false, true, false, false, false] rfl rfl (by kernel_rfl) (fun _ _ _ h => h) (Or.inl ⟨by rfl, ?_⟩) ?_ ?_
  rotate_left
  · intro w'
    go_simp
    with_reducible rfl
  rotate_left
  · simp only [Act.put, List.setIfInBounds_toArray, List.set_cons_zero, List.set_cons_succ, i64_w, i32_w]
    rfl
  refine pure_ (i := 9) (N := some 35) (v := ?_) (a' := ?_) #[true, true, true, true, true, true, true, true, true, true, true, false, false, false] rfl rfl (by kernel_rfl) (fun _ _ _ h => h) (Or.inl ⟨by rfl, ?_⟩) ?_ ?_
  rotate_left
  · intro w'
    go_simp
    with_reducible rfl
  rotate_left
  · simp only [Act.put, List.setIfInBounds_toArray, List.set_cons_zero, List.set_cons_succ, i64_w, i32_w]
    rfl
  refine pure_ (i := 11) (N := some 37) (v := ?_) (a' := ?_) #[true, true, true, true, true, true, true, true, true, true, true, true, false, false] rfl rfl (by kernel_rfl) (fun _ _ _ h => h) (Or.inl ⟨by rfl, ?_⟩) ?_ ?_
  rotate_left
  · intro w'
    go_simp
    with_reducible rfl
  rotate_left
  · simp only [Act.put, List.setIfInBounds_toArray, List.set_cons_zero, List.set_cons_succ, i64_w, i32_w]
    rfl
  refine pure_ (i := 12) (N := some 38) (v := ?_) (a' := ?_) #[true, true, true, true, true, true, true, true, true, true, true, true, true, false] rfl rfl (by kernel_rfl) (fun _ _ _ h => h) (Or.inl ⟨by rfl, ?_⟩) ?_ ?_
  rotate_left
  · intro w'
    go_simp
    with_reducible rfl
  rotate_left
  · simp only [Act.put, List.setIfInBounds_toArray, List.set_cons_zero, List.set_cons_succ, i64_w, i32_w]
    rfl
  refine last_ (i := 13) (N := none) #[true, true, true, true, true, true, true, true, true, true, true, true, true, true] rfl rfl (by kernel_rfl) (by decide) (fun K hK => ?_)
  obtain ⟨t0, t1, t2⟩ := hHeld
  have tc1 : World.cell? _ ⟨b, 1, none⟩ = some (.int .i64 0) := (blk_cell t2.out 1).trans rfl
  have tf1 := blk_frozen t2.out 1
  refine skip_ (w1 := ?_) (by rfl) rfl ?_ ?_
  rotate_left
  · go_simp
    rfl
  refine hK.out _ _ ?_
  clear hK K
  refine done_ (by kernel_rfl) ?_

  have hY := interleavescene_Problem_Formula.yof n X (wrap64 (IntKind.u8.wrap y)) (by omega) hX2 (interleavelaw32_DiffEntails.u8w y).1
  obtain ⟨Y, hY0⟩ : ∃ Y, Y = (wrap64 (X + 1 + (wrap64 (IntKind.u8.wrap y)).tmod ((n : Int) - 1))).tmod n := ⟨_, rfl⟩
  rw [← hY0] at hY ⊢
  have HB5 := Aside0.mk (below_drew (below_set (j := 1) (v := .int .i64 Y) HB2.out HBG.out))
  have HD := Aside0.mk (blk_drew (blk_put HBK.out 1 (.int .i64 Y) rfl))
  obtain ⟨W5, hW5⟩ : ∃ W5, W5 = (W2.setCell ⟨b, 1, none⟩ (.int .i64 Y)).drew := ⟨_, rfl⟩
  rw [← hW5] at HB5 HD ⊢
  clear hY0 hW5 t0 t1 t2 tc1 tf1 hn1 hwn hwx HB2 HBK z0
  have q0 : W5.cell? ⟨b, 0, none⟩ = some (.int .i64 X) := (blk_cell HD.out 0).trans rfl
  have q1 : W5.cell? ⟨b, 1, none⟩ = some (.int .i64 Y) := (blk_cell HD.out 1).trans rfl
  have q2 : W5.cell? ⟨b, 2, none⟩ = some (.int .i64 C) := (blk_cell HD.out 2).trans rfl
  obtain ⟨k, rb, he1, he2, ha⟩ := HX.out X Y C hX2 hY.1 hY.2 hC2
  go_wp2_with fail
  refine start_ (n := 13) (S := fun w' => w'.cell? ⟨b, 0, none⟩ = some (.int .i64 X) ∧ w'.cell? ⟨b, 1, none⟩ = some (.int .i64 Y) ∧ w'.cell? ⟨b, 2, none⟩ = some (.int .i64 C) ∧ Aside0 (Below w1.heap.size w1 w')) (ds := []) #[false, false, false, false, false, false, false, false, false, false, false, false, false] (by kernel_rfl) rfl rfl ⟨q0, q1, q2, Aside0.mk (below_drew HB5.out)⟩ (fun hHeld => ?_)
  refine pure_ (i := 0) (N := some 39) (v := ?_) (a' := ?_) #[true, false, false, false, false, false, false, false, false, false, false, false, false] rfl rfl (by kernel_rfl) (fun _ _ _ h => h) (Or.inl ⟨by rfl, ?_⟩) ?_ ?_
  rotate_left
  · intro w'
    go_simp
    with_reducible rfl
  rotate_left
  · simp only [Act.put, List.setIfInBounds_toArray, List.set_cons_zero, List.set_cons_succ, i64_w, i32_w]
    rfl
  refine pure_ (i := 1) (N := some 40) (v := ?_) (a' := ?_) #[true, true, false, false, false, false, false, false, false, false, false, false, false] rfl rfl (by kernel_rfl) (fun _ _ _ h => h) (Or.inl ⟨by rfl, ?_⟩) ?_ ?_
  rotate_left
  · intro w'
    go_simp
    with_reducible rfl
  rotate_left
  · simp only [Act.put, List.setIfInBounds_toArray, List.set_cons_zero, List.set_cons_succ, i64_w, i32_w]
    rfl
  refine pure_ (i := 4) (N := some 43) (v := ?_) (a' := ?_) #[true, true, false, false, true, false, false, false, false, false, false, false, false] rfl rfl (by kernel_rfl) (fun _ _ _ h => h) (Or.inl ⟨by rfl, ?_⟩) ?_ ?_
  rotate_left
  · intro w'
    go_simp
    with_reducible rfl
  rotate_left
  · simp only [Act.put, List.setIfInBounds_toArray, List.set_cons_zero, List.set_cons_succ, i64_w, i32_w]
    rfl
  refine pure_ (i := 5) (N := some 44) (v := ?_) (a' := ?_) #[true, true, false, false, true, true, false, false, false, false, false, false, false] rfl rfl (by kernel_rfl) (fun _ _ _ h => h) (Or.inl ⟨by rfl, ?_⟩) ?_ ?_
  rotate_left
  · intro w'
    go_simp
    with_reducible rfl
  rotate_left
  · simp only [Act.put, List.setIfInBounds_toArray, List.set_cons_zero, List.set_cons_succ, i64_w, i32_w]
    rfl
  refine take_ (i := 2) (N := some 41) (v := ?_) (a' := ?_) #[true, true, true, false, true, true, false, false, false, false, false, false, false] rfl rfl (by kernel_rfl) (fun _ _ _ h => h) (Or.inl ⟨by rfl, ?_⟩) hHeld ?_ ?_
  rotate_left
  · rintro w' ⟨s0, s1, s2, s3⟩
    go_simp
    with_reducible rfl
  rotate_left
  · simp only [Act.put, List.setIfInBounds_toArray, List.set_cons_zero, List.set_cons_succ, i64_w, i32_w]
    rfl
  refine take_ (i := 6) (N := some 45) (v := ?_) (a' := ?_) #[true, true, true, false, true, true, true, false, false, false, false, false, false] rfl rfl (by kernel_rfl) (fun _ _ _ h => h) (Or.inl ⟨by rfl, ?_⟩) hHeld ?_ ?_
  rotate_left
  · rintro w' ⟨s0, s1, s2, s3⟩
    go_simp
    with_reducible rfl
  rotate_left
  · simp only [Act.put, List.setIfInBounds_toArray, List.set_cons_zero, List.set_cons_succ, i64_w, i32_w]
    rfl
  refine one_ (i := 3) (N := some 42) #[true, true, true, true, true, true, true, false, false, false, false, false, false] rfl rfl (by kernel_rfl) (by decide) (fun K hK => ?_)
  obtain ⟨t0, t1, t2, t3⟩ := hHeld
  refine goes_ Try.func17 (by kernel_rfl) rfl #[.int .i64 (n : Int), .slice A1 l.length c1, .agg #[.int .i64 X, .int .i64 Y, .int .i64 C]] (by rfl) rfl rfl (by simp only [List.map_toArray, List.map_cons, List.map_nil]; rfl) ?_
  with_reducible refine (diff_Entails.calls k (n : Int) A1 c1 l X Y C rb _ (Kd.C_below HC.out.2 t3.out) HC.out.1 he1).mono ?_
  rintro e w3 ⟨rfl, hb3⟩
  refine ⟨_, rfl, ?_⟩
  refine hK.out _ _ ⟨(hb3.cell (World.block_lt_of_cell? _ _ t0)).trans t0, (hb3.cell (World.block_lt_of_cell? _ _ t1)).trans t1, (hb3.cell (World.block_lt_of_cell? _ _ t2)).trans t2, ⟨below_step t3.out hb3⟩⟩ (fun hHeld => ?_)
  clear hK K
  refine norm_ (a' := ?_) ?_ ?_
  rotate_left
  · show Act.put _ (some 42) _ = _
    simp only [Act.put, List.setIfInBounds_toArray, List.set_cons_zero, List.set_cons_succ, i64_w, i32_w]
    rfl
  refine one_ (i := 7) (N := some 46) #[true, true, true, true, true, true, true, true, false, false, false, false, false] rfl rfl (by kernel_rfl) (by decide) (fun K hK => ?_)
  obtain ⟨t0, t1, t2, t3⟩ := hHeld
  refine goes_ Try.func18 (by kernel_rfl) rfl #[.int .i64 (n : Int), .slice A1 l.length c1, .agg #[.int .i64 X, .int .i64 Y, .int .i64 C]] (by rfl) rfl rfl (by simp only [List.map_toArray, List.map_cons, List.map_nil]; rfl) ?_
  with_reducible refine (interleaveref31_Entails.calls k (n : Int) A1 c1 l X Y C rb _ (Kd.C_below HC.out.2 t3.out) HC.out.1 he2).mono ?_
  rintro e w3 ⟨rfl, hb3⟩
  refine ⟨_, rfl, ?_⟩
  refine hK.out _ _ ⟨(hb3.cell (World.block_lt_of_cell? _ _ t0)).trans t0, (hb3.cell (World.block_lt_of_cell? _ _ t1)).trans t1, (hb3.cell (World.block_lt_of_cell? _ _ t2)).trans t2, ⟨below_step t3.out hb3⟩⟩ (fun hHeld => ?_)
  clear hK K
  refine norm_ (a' := ?_) ?_ ?_
  rotate_left
  · show Act.put _ (some 46) _ = _
    simp only [Act.put, List.setIfInBounds_toArray, List.set_cons_zero, List.set_cons_succ, i64_w, i32_w]
    rfl
  refine pure_ (i := 8) (N := some 47) (v := ?_) (a' := ?_) #[true, true, true, true, true, true, true, true, true, false, false, false, false] rfl rfl (by kernel_rfl) (fun _ _ _ h => h) (Or.inl ⟨by rfl, ?_⟩) ?_ ?_
  rotate_left
  · intro w'
    go_simp
    with_reducible rfl
  rotate_left
  · simp only [Act.put, List.setIfInBounds_toArray, List.set_cons_zero, List.set_cons_succ, i64_w, i32_w]
    rfl
  refine pure_ (i := 9) (N := some 48) (v := ?_) (a' := ?_) #[true, true, true, true, true, true, true, true, true, true, false, false, false] rfl rfl (by kernel_rfl) (fun _ _ _ h => h) (Or.inl ⟨by rfl, ?_⟩) ?_ ?_
  rotate_left
  · intro w'
    go_simp
    with_reducible rfl
  rotate_left
  · simp only [Act.put, List.setIfInBounds_toArray, List.set_cons_zero, List.set_cons_succ, i64_w, i32_w]
    rfl
  refine one_ (i := 10) (N := some 49) #[true, true, true, true, true, true, true, true, true, true, true, false, false] rfl rfl (by kernel_rfl) (by decide) (fun K hK => ?_)
  obtain ⟨t0, t1, t2, t3⟩ := hHeld
  refine goes_ Try.func13 (by kernel_rfl) rfl #[] (by rfl) rfl rfl (by first | (simp only [List.map_toArray, List.map_cons, List.map_nil]; done) | (simp only [List.map_toArray, List.map_cons, List.map_nil]; rfl)) ?_
  with_reducible refine (interleavelaw32_awake.calls k true _ ha).mono ?_
  rintro e w3 ⟨rfl, hb3⟩
  refine ⟨_, rfl, ?_⟩
  refine hK.out _ _ ⟨(hb3.cell (World.block_lt_of_cell? _ _ t0)).trans t0, (hb3.cell (World.block_lt_of_cell? _ _ t1)).trans t1, (hb3.cell (World.block_lt_of_cell? _ _ t2)).trans t2, ⟨below_step t3.out hb3⟩⟩ (fun hHeld => ?_)
  clear hK K
  refine norm_ (a' := ?_) ?_ ?_
  rotate_left
  · show Act.put _ (some 49) _ = _
    simp only [Act.put, List.setIfInBounds_toArray, List.set_cons_zero, List.set_cons_succ, i64_w, i32_w]
    rfl
  refine pure_ (i := 11) (N := some 50) (v := ?_) (a' := ?_) #[true, true, true, true, true, true, true, true, true, true, true, true, false] rfl rfl (by kernel_rfl) (fun _ _ _ h => h) (Or.inl ⟨by rfl, ?_⟩) ?_ ?_
  rotate_left
  · intro w'
    go_simp
    with_reducible rfl
  rotate_left
  · simp only [Act.put, List.setIfInBounds_toArray, List.set_cons_zero, List.set_cons_succ, i64_w, i32_w]
    rfl
  refine pure_ (i := 12) (N := some 8) (v := ?_) (a' := ?_) #[true, true, true, true, true, true, true, true, true, true, true, true, true] rfl rfl (by kernel_rfl) (fun _ _ _ h => h) (Or.inl ⟨by rfl, ?_⟩) ?_ ?_
  rotate_left
  · intro w'
    go_simp
    with_reducible rfl
  rotate_left
  · simp only [Act.put, List.setIfInBounds_toArray, List.set_cons_zero, List.set_cons_succ, i64_w, i32_w]
    rfl
  refine done_ (by kernel_rfl) ?_
  obtain ⟨_, _, _, HBf⟩ := hHeld
  go_wp2
  go_ret
  exact ⟨rfl, below_step HBw.out HBf.out⟩


end Go.Proofs.Ytolfnlamknmeaaa.MDiffEntails
