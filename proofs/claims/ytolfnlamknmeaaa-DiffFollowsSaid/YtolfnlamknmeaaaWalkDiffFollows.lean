/- DiffFollows: what the law's own function does, step by step, at every system that the made problem may give. -/
import Derived.Test.YtolfnlamknmeaaaMDiffFollowsx
import Derived.Outline
import Derived.OneCell
namespace Go.Proofs.Ytolfnlamknmeaaa.MDiffFollows
open Go.RowKit Go.Proofs.YtolfnlamknmeaaaW.PrintWords Go.Proofs.YtolfnlamknmeaaaW.PrintLast Go.Proofs.YtolfnlamknmeaaaW.PrintMore
attribute [local go_sem] max2_int min2_int max_two min_two max_three min_three max_four min_four
set_option linter.unusedVariables false
set_option linter.unusedSimpArgs false
theorem interleavelaw32_DiffFollows.u8w (y : Int) : 0 ≤ wrap64 (IntKind.u8.wrap y) ∧ wrap64 (IntKind.u8.wrap y) ≤ 255 := by
  have h : IntKind.u8.wrap y = y % 256 := by simp [IntKind.wrap, IntKind.signed, IntKind.bits]
  rw [h]; unfold wrap64; omega
theorem interleavelaw32_DiffFollows.six (z : Int) (hz : -128 ≤ z ∧ z ≤ 127) : -5 ≤ wrap64 (z.tmod 6) ∧ wrap64 (z.tmod 6) ≤ 5 := by
  have h : -5 ≤ z.tmod 6 ∧ z.tmod 6 ≤ 5 := by
    by_cases h0 : 0 ≤ z
    · rw [Int.tmod_eq_emod_of_nonneg h0]; omega
    · rw [show z = -(-z) from by omega, Int.neg_tmod, Int.tmod_eq_emod_of_nonneg (by omega)]; omega
  rw [show wrap64 (z.tmod 6) = z.tmod 6 from by unfold wrap64; omega]
  exact h
theorem interleavelaw32_DiffFollows.one (W : World) (X Y C : Int) : Kd.C k36 (W.alloc (.cells #[.int .i64 X, .int .i64 Y, .int .i64 C] 36)) (some ⟨W.heap.size, 0, none⟩) 1 [(⟨X, Y, C⟩ : S36)] := by
  refine ⟨rfl, by omega, fun _ => ⟨_, rfl, fun j p hj => ?_⟩⟩
  match j, hj with
  | 0, hj =>
    obtain rfl : (⟨X, Y, C⟩ : S36) = p := by simpa using hj
    refine ⟨_, rfl, k36_mk _ ⟨X, Y, C⟩, fun i u hu => ?_⟩
    have h := World.news_of_block (cs := #[.int .i64 X, .int .i64 Y, .int .i64 C]) (t := 36) (fr := (0, 0)) (heap_alloc_new W (.cells #[.int .i64 X, .int .i64 Y, .int .i64 C] 36)) i u hu
    rw [Nat.zero_mul, Nat.zero_add]
    exact h
  | j + 1, hj => simp at hj
set_option maxHeartbeats 8000000 in
set_option maxRecDepth 100000 in
theorem interleavelaw32_DiffFollows.calls (w : World) (s0 s1 s2 : Int) (A : Option Addr) (c : Nat) (L0 : List Int) (x : Int) (hx : -128 ≤ x ∧ x ≤ 127) (y : Int) (hy : -128 ≤ y ∧ y ≤ 127) (z : Int) (hz : -128 ≤ z ∧ z ≤ 127) (H : ∀ (n : Nat) (l : List S36), 2 ≤ n ∧ n ≤ 6 → l.length ≤ 52 → (∀ d ∈ l, interleavelaw32_system.okL n d) → ∀ (X Y C : Int), (0 ≤ X ∧ X < n) → (0 ≤ Y ∧ Y < n) → X ≠ Y → (-5 ≤ C ∧ C ≤ 5) → ∃ (k : Nat) (s cy : List Int) (ok : Bool), diff_Solve.f k (n : Int) l = some (s, cy, ok) ∧ interleavelaw32_awake.f k = some true ∧ (ok = false → diff_Entails.f k (n : Int) l X Y C = some true) ∧
      (ok = true → ∃ (s2 cy2 : List Int) (op : Bool), diff_Solve.f k (n : Int) (l ++ [⟨Y, X, wrap64 (wrap64 (-C) - 1)⟩]) = some (s2, cy2, op) ∧ diff_Entails.f k (n : Int) l X Y C = some (!op) ∧ (op = false → diff_Holds.f [⟨X, Y, C⟩] s = some true))) (hr : Kd.C (Kd.int .u8) w A L0.length L0) (hc : L0.length ≤ c) (h0 : 0 ≤ s0 ∧ s0 ≤ 255) (h1 : 0 ≤ s1 ∧ s1 ≤ 255) (h2 : 0 ≤ s2 ∧ s2 ≤ 255) (hu : ∀ x ∈ L0, 0 ≤ x ∧ x ≤ 255) :
    Calls Try.prog 9 #[.agg #[.int .u8 s0, .int .u8 s1, .int .u8 s2, .slice A L0.length c], .int .i8 x, .int .i8 y, .int .i8 z] w fun e w' => e = .returned (.bool true) ∧ Below w.heap.size w w' := by
  have hu32 := Try.underlying32
  have HU := Aside0.mk hu
  have HR := Aside0.mk hr
  have HH := Aside0.mk H
  clear hr hu H
  go_enter Try.func9, Try.ntmps9
  go_wp2_with fail
  refine (interleavelaw32_system.calls (w.alloc _) s0 s1 s2 A c L0 (Kd.C_below HR.out (below_alloc (Below.refl _ _) _)) hc h0 h1 h2 HU.out).mono ?_
  rintro e w1 ⟨n0, vl, l, rfl, HRl, hn, hll, hl, HB1⟩
  obtain ⟨n, rfl⟩ : ∃ n : Nat, n0 = (n : Int) := ⟨n0.toNat, by omega⟩
  have HX := Aside0.mk (HH.out n l (by omega) hll hl)
  obtain ⟨A1, c1, rfl⟩ := Kd.R_slice HRl
  have HC := Aside0.mk (Kd.R_reads' HRl).2
  have HBw := Aside0.mk (below_step (below_alloc (Below.refl w.heap.size w) (.cells #[.int .u8 s0, .int .u8 s1, .int .u8 s2, .slice A L0.length c] 32)) HB1)
  clear HRl HB1 HU HR HH
  clear hl
  have hn0 : (n = 0) = False := eq_false (by omega)
  go_wp2_with fail
  obtain ⟨b, hb⟩ : ∃ b, b = w1.heap.size := ⟨_, rfl⟩
  obtain ⟨X, hX⟩ : ∃ X, X = x % 256 % (n : Int) := ⟨_, rfl⟩
  obtain ⟨C, hC⟩ : ∃ C, C = wrap64 (z.tmod 6) := ⟨_, rfl⟩
  have hX2 : 0 ≤ X ∧ X < n := by rw [hX]; exact ⟨Int.emod_nonneg _ (by omega), Int.emod_lt_of_pos _ (by omega)⟩
  have hC2 := interleavelaw32_DiffFollows.six z hz
  rw [← hC] at hC2
  rw [← hX, ← hC, ← hb]
  obtain ⟨W2, hW2⟩ : ∃ W2, W2 = w1.alloc (Obj.cells #[.int .i64 X, .int .i64 0, .int .i64 C] 36) := ⟨_, rfl⟩
  rw [← hW2]
  have HBK : Aside0 (W2.heap[b]? = some (.cells #[.int .i64 X, .int .i64 0, .int .i64 C] 36 (0, 0))) := ⟨by rw [hW2, hb]; exact blk_new _ _⟩
  have HB2 : Aside0 (Below w1.heap.size w1 W2) := ⟨by rw [hW2]; exact below_alloc (Below.refl _ _) _⟩
  have z0 : W2.cell? ⟨b, 0, none⟩ = some (.int .i64 X) := (blk_cell HBK.out 0).trans rfl
  have HBG : Aside0 (w1.heap.size ≤ b) := ⟨by omega⟩
  have hn1 : ((n : Int) - 1 = 0) = False := eq_false (by omega)
  have hwn : wrap64 ((n : Int) - 1) = (n : Int) - 1 := by unfold wrap64; omega
  have hwx : wrap64 (X + 1) = X + 1 := by unfold wrap64; omega
  clear hW2 hb hX hC
  refine start_ (n := 14) (S := fun w' => w'.cell? ⟨b, 0, none⟩ = some (.int .i64 X) ∧ Aside0 (Below w1.heap.size w1 w') ∧ Aside0 (w'.heap[b]? = some (.cells #[.int .i64 X, .int .i64 0, .int .i64 C] 36 (0, 0)))) (ds := [13]) #[false, false, false, false, false, false, false, false, false, false, false, false, false, false] (by kernel_rfl) rfl rfl ⟨z0, Aside0.mk (below_drew HB2.out), Aside0.mk (blk_drew HBK.out)⟩ (fun hHeld => ?_)
  refine pure_ (i := 0) (N := some 34) (v := ?_) (a' := ?_) #[true, false, false, false, false, false, false, false, false, false, false, false, false, false] rfl rfl (by kernel_rfl) (fun _ _ _ h => h) (Or.inl ⟨by rfl, ?_⟩) ?_ ?_
  rotate_left
  · intro w'
    go_simp
    with_reducible rfl
  rotate_left
  · simp only [Act.put, List.setIfInBounds_toArray, List.set_cons_zero, List.set_cons_succ, i64_w, i32_w]
    rfl
  refine pure_ (i := 3) (N := some 37) (v := ?_) (a' := ?_) #[true, false, false, true, false, false, false, false, false, false, false, false, false, false] rfl rfl (by kernel_rfl) (fun _ _ _ h => h) (Or.inl ⟨by rfl, ?_⟩) ?_ ?_
  rotate_left
  · intro w'
    go_simp
    with_reducible rfl
  rotate_left
  · simp only [Act.put, List.setIfInBounds_toArray, List.set_cons_zero, List.set_cons_succ, i64_w, i32_w]
    rfl
  refine pure_ (i := 4) (N := some 38) (v := ?_) (a' := ?_) #[true, false, false, true, true, false, false, false, false, false, false, false, false, false] rfl rfl (by kernel_rfl) (fun _ _ _ h => h) (Or.inl ⟨by rfl, ?_⟩) ?_ ?_
  rotate_left
  · intro w'
    go_simp
    with_reducible rfl
  rotate_left
  · simp only [Act.put, List.setIfInBounds_toArray, List.set_cons_zero, List.set_cons_succ, i64_w, i32_w]
    rfl
  refine pure_ (i := 5) (N := some 39) (v := ?_) (a' := ?_) #[true, false, false, true, true, true, false, false, false, false, false, false, false, false] rfl rfl (by kernel_rfl) (fun _ _ _ h => h) (Or.inl ⟨by rfl, ?_⟩) ?_ ?_
  rotate_left
  · intro w'
    go_simp
    with_reducible rfl
  rotate_left
  · simp only [Act.put, List.setIfInBounds_toArray, List.set_cons_zero, List.set_cons_succ, i64_w, i32_w]
    rfl
  refine pure_ (i := 6) (N := some 40) (v := ?_) (a' := ?_) #[true, false, false, true, true, true, true, false, false, false, false, false, false, false] rfl rfl (by kernel_rfl) (fun _ _ _ h => h) (Or.inl ⟨by rfl, ?_⟩) ?_ ?_
  rotate_left
  · intro w'
    go_simp
    with_reducible rfl
  rotate_left
  · simp only [Act.put, List.setIfInBounds_toArray, List.set_cons_zero, List.set_cons_succ, i64_w, i32_w]
    rfl
  refine pure_ (i := 7) (N := some 41) (v := ?_) (a' := ?_) #[true, false, false, true, true, true, true, true, false, false, false, false, false, false] rfl rfl (by kernel_rfl) (fun _ _ _ h => h) (Or.inl ⟨by rfl, ?_⟩) ?_ ?_
  rotate_left
  · intro w'
    go_simp
    with_reducible rfl
  rotate_left
  · simp only [Act.put, List.setIfInBounds_toArray, List.set_cons_zero, List.set_cons_succ, i64_w, i32_w]
    rfl
  refine pure_ (i := 8) (N := some 42) (v := ?_) (a' := ?_) #[true, false, false, true, true, true, true, true, true, false, false, false, false, false] rfl rfl (by kernel_rfl) (fun _ _ _ h => h) (Or.inl ⟨by rfl, ?_⟩) ?_ ?_
  rotate_left
  · intro w'
    go_simp
    with_reducible rfl
  rotate_left
  · simp only [Act.put, List.setIfInBounds_toArray, List.set_cons_zero, List.set_cons_succ, i64_w, i32_w]
    rfl
  refine pure_ (i := 10) (N := some 44) (v := ?_) (a' := ?_) #[true, false, false, true, true, true, true, true, true, false, true, false, false, false] rfl rfl (by kernel_rfl) (fun _ _ _ h => h) (Or.inl ⟨by rfl, ?_⟩) ?_ ?_
  rotate_left
  · intro w'
    go_simp
    with_reducible rfl
  rotate_left
  · simp only [Act.put, List.setIfInBounds_toArray, List.set_cons_zero, List.set_cons_succ, i64_w, i32_w]
    rfl
  refine take_ (i := 1) (N := some 35) (v := ?_) (a' := ?_) #[true, true, false, true, true, true, true, true, true, false, true, false, false, false] rfl rfl (by kernel_rfl) (fun _ _ _ h => h) (Or.inl ⟨by rfl, ?_⟩) hHeld ?_ ?_
  rotate_left
  · rintro w' ⟨s0, s1, s2⟩
    go_simp
    with_reducible rfl
  rotate_left
  · simp only [Act.put, List.setIfInBounds_toArray, List.set_cons_zero, List.set_cons_succ, i64_w, i32_w]
    rfl
  refine pure_ (i := 2) (N := some 36) (v := ?_) (a' := ?_) #[true, true, true, true, true, true, true, true, true, false, true, false, false, false] rfl rfl (by kernel_rfl) (fun _ _ _ h => h) (Or.inl ⟨by rfl, ?_⟩) ?_ ?_
  rotate_left
  · intro w'
    go_simp
    with_reducible rfl
  rotate_left
  · simp only [Act.put, List.setIfInBounds_toArray, List.set_cons_zero, List.set_cons_succ, i64_w, i32_w]
    rfl
  refine pure_ (i := 9) (N := some 43) (v := ?_) (a' := ?_) #[true, true, true, true, true, true, true, true, true, true, true, false, false, false] rfl rfl (by kernel_rfl) (fun _ _ _ h => h) (Or.inl ⟨by rfl, ?_⟩) ?_ ?_
  rotate_left
  · intro w'
    go_simp
    with_reducible rfl
  rotate_left
  · simp only [Act.put, List.setIfInBounds_toArray, List.set_cons_zero, List.set_cons_succ, i64_w, i32_w]
    rfl
  refine pure_ (i := 11) (N := some 45) (v := ?_) (a' := ?_) #[true, true, true, true, true, true, true, true, true, true, true, true, false, false] rfl rfl (by kernel_rfl) (fun _ _ _ h => h) (Or.inl ⟨by rfl, ?_⟩) ?_ ?_
  rotate_left
  · intro w'
    go_simp
    with_reducible rfl
  rotate_left
  · simp only [Act.put, List.setIfInBounds_toArray, List.set_cons_zero, List.set_cons_succ, i64_w, i32_w]
    rfl
  refine pure_ (i := 12) (N := some 46) (v := ?_) (a' := ?_) #[true, true, true, true, true, true, true, true, true, true, true, true, true, false] rfl rfl (by kernel_rfl) (fun _ _ _ h => h) (Or.inl ⟨by rfl, ?_⟩) ?_ ?_
  rotate_left
  · intro w'
    go_simp
    with_reducible rfl
  rotate_left
  · simp only [Act.put, List.setIfInBounds_toArray, List.set_cons_zero, List.set_cons_succ, i64_w, i32_w]
    rfl
  refine last_ (i := 13) (N := none) #[true, true, true, true, true, true, true, true, true, true, true, true, true, true] rfl rfl (by kernel_rfl) (by decide) (fun K hK => ?_)
  obtain ⟨t0, t1, t2⟩ := hHeld
  have tc1 : World.cell? _ ⟨b, 1, none⟩ = some (.int .i64 0) := (blk_cell t2.out 1).trans rfl
  have tf1 := blk_frozen t2.out 1
  refine skip_ (w1 := ?_) (by rfl) rfl ?_ ?_
  rotate_left
  · go_simp
    rfl
  refine hK.out _ _ ?_
  clear hK K
  refine done_ (by kernel_rfl) ?_

  have hY := interleavescene_Problem_Formula.yof n X (wrap64 (IntKind.u8.wrap y)) (by omega) hX2 (interleavelaw32_DiffFollows.u8w y).1
  obtain ⟨Y, hY0⟩ : ∃ Y, Y = (wrap64 (X + 1 + (wrap64 (IntKind.u8.wrap y)).tmod ((n : Int) - 1))).tmod n := ⟨_, rfl⟩
  rw [← hY0] at hY ⊢
  have HB5 := Aside0.mk (below_drew (below_set (j := 1) (v := .int .i64 Y) HB2.out HBG.out))
  have HD := Aside0.mk (blk_drew (blk_put HBK.out 1 (.int .i64 Y) rfl))
  obtain ⟨W5, hW5⟩ : ∃ W5, W5 = (W2.setCell ⟨b, 1, none⟩ (.int .i64 Y)).drew := ⟨_, rfl⟩
  rw [← hW5] at HB5 HD ⊢
  clear hY0 hW5 t0 t1 t2 tc1 tf1 hn1 hwn hwx HB2 HBK z0
  have q0 : W5.cell? ⟨b, 0, none⟩ = some (.int .i64 X) := (blk_cell HD.out 0).trans rfl
  have q1 : W5.cell? ⟨b, 1, none⟩ = some (.int .i64 Y) := (blk_cell HD.out 1).trans rfl
  have q2 : W5.cell? ⟨b, 2, none⟩ = some (.int .i64 C) := (blk_cell HD.out 2).trans rfl
  obtain ⟨k, s, cy, ok, hs, ha, hf1, hf2⟩ := HX.out X Y C hX2 hY.1 hY.2 hC2
  have HS := Aside0.mk hs
  have HHA := Aside0.mk ha
  have HF1 := Aside0.mk hf1
  have HF2 := Aside0.mk hf2
  clear hs ha hf1 hf2 HX
  have hbl := Aside0.mk (blk_lt HD.out)
  go_wp2_with fail
  refine (diff_Solve.calls k (n : Int) A1 c1 l s cy ok W5 (Kd.C_below HC.out.2 HB5.out) HC.out.1 HS.out).mono ?_
  rintro e w6 ⟨v0, v1, rfl, HXr, _, HBs⟩
  have HB6 := Aside0.mk (below_step HB5.out HBs)
  have HD6 := Aside0.mk (blk_below HD.out HBs)
  obtain ⟨A2, c2, rfl⟩ := Kd.R_slice HXr
  have HX2 := Aside0.mk (Kd.R_reads' HXr).2
  clear HXr HBs q0 q1 q2 HB5 HD hbl
  have z0 : w6.cell? ⟨b, 0, none⟩ = some (.int .i64 X) := (blk_cell HD6.out 0).trans rfl
  have z1 : w6.cell? ⟨b, 1, none⟩ = some (.int .i64 Y) := (blk_cell HD6.out 1).trans rfl
  have z2 : w6.cell? ⟨b, 2, none⟩ = some (.int .i64 C) := (blk_cell HD6.out 2).trans rfl
  cases ok with
  | false =>
    go_wp2_with fail
    refine (diff_Entails.calls k (n : Int) A1 c1 l X Y C true w6 (Kd.C_below HC.out.2 HB6.out) HC.out.1 (by have h := HF1.out; simpa using h)).mono ?_
    rintro e w7 ⟨rfl, HB7⟩
    go_wp2_with fail
    refine (interleavelaw32_awake.calls k true w7 HHA.out).mono ?_
    rintro e w8 ⟨rfl, HB8⟩
    have HBf := Aside0.mk (below_step HBw.out (below_step (below_step HB6.out HB7) HB8))
    clear HB7 HB8
    go_wp2
    go_ret
    exact ⟨rfl, HBf.out⟩
  | true =>
    obtain ⟨s2, cy2, op, hs2, hent, hop⟩ := HF2.out rfl
    have HS2 := Aside0.mk hs2
    have HEN := Aside0.mk hent
    have HOP := Aside0.mk hop
    clear hs2 hent hop HF1 HF2
    go_wp2_with fail
    refine start_ (n := 14) (S := fun w' => w'.cell? ⟨b, 0, none⟩ = some (.int .i64 X) ∧ w'.cell? ⟨b, 1, none⟩ = some (.int .i64 Y) ∧ w'.cell? ⟨b, 2, none⟩ = some (.int .i64 C) ∧ Aside0 (Below w6.heap.size w6 w')) (ds := [12]) #[false, false, false, false, false, false, false, false, false, false, false, false, false, false] (by kernel_rfl) rfl rfl ⟨z0, z1, z2, ⟨below_drew (Below.refl _ _)⟩⟩ (fun hHeld => ?_)
    refine pure_ (i := 0) (N := some 63) (v := ?_) (a' := ?_) #[true, false, false, false, false, false, false, false, false, false, false, false, false, false] rfl rfl (by kernel_rfl) (fun _ _ _ h => h) (Or.inl ⟨by rfl, ?_⟩) ?_ ?_
    rotate_left
    · intro w'
      go_simp
      with_reducible rfl
    rotate_left
    · simp only [Act.put, List.setIfInBounds_toArray, List.set_cons_zero, List.set_cons_succ, i64_w, i32_w]
      rfl
    refine pure_ (i := 2) (N := some 65) (v := ?_) (a' := ?_) #[true, false, true, false, false, false, false, false, false, false, false, false, false, false] rfl rfl (by kernel_rfl) (fun _ _ _ h => h) (Or.inl ⟨by rfl, ?_⟩) ?_ ?_
    rotate_left
    · intro w'
      go_simp
      with_reducible rfl
    rotate_left
    · simp only [Act.put, List.setIfInBounds_toArray, List.set_cons_zero, List.set_cons_succ, i64_w, i32_w]
      rfl
    refine pure_ (i := 4) (N := some 67) (v := ?_) (a' := ?_) #[true, false, true, false, true, false, false, false, false, false, false, false, false, false] rfl rfl (by kernel_rfl) (fun _ _ _ h => h) (Or.inl ⟨by rfl, ?_⟩) ?_ ?_
    rotate_left
    · intro w'
      go_simp
      with_reducible rfl
    rotate_left
    · simp only [Act.put, List.setIfInBounds_toArray, List.set_cons_zero, List.set_cons_succ, i64_w, i32_w]
      rfl
    refine pure_ (i := 6) (N := some 69) (v := ?_) (a' := ?_) #[true, false, true, false, true, false, true, false, false, false, false, false, false, false] rfl rfl (by kernel_rfl) (fun _ _ _ h => h) (Or.inl ⟨by rfl, ?_⟩) ?_ ?_
    rotate_left
    · intro w'
      go_simp
      with_reducible rfl
    rotate_left
    · simp only [Act.put, List.setIfInBounds_toArray, List.set_cons_zero, List.set_cons_succ, i64_w, i32_w]
      rfl
    refine take_ (i := 3) (N := some 66) (v := ?_) (a' := ?_) #[true, false, true, true, true, false, true, false, false, false, false, false, false, false] rfl rfl (by kernel_rfl) (fun _ _ _ h => h) (Or.inl ⟨by rfl, ?_⟩) hHeld ?_ ?_
    rotate_left
    · rintro w' ⟨s0, s1, s2, s3⟩
      go_simp
      with_reducible rfl
    rotate_left
    · simp only [Act.put, List.setIfInBounds_toArray, List.set_cons_zero, List.set_cons_succ, i64_w, i32_w]
      rfl
    refine take_ (i := 5) (N := some 68) (v := ?_) (a' := ?_) #[true, false, true, true, true, true, true, false, false, false, false, false, false, false] rfl rfl (by kernel_rfl) (fun _ _ _ h => h) (Or.inl ⟨by rfl, ?_⟩) hHeld ?_ ?_
    rotate_left
    · rintro w' ⟨s0, s1, s2, s3⟩
      go_simp
      with_reducible rfl
    rotate_left
    · simp only [Act.put, List.setIfInBounds_toArray, List.set_cons_zero, List.set_cons_succ, i64_w, i32_w]
      rfl
    refine take_ (i := 7) (N := some 70) (v := ?_) (a' := ?_) #[true, false, true, true, true, true, true, true, false, false, false, false, false, false] rfl rfl (by kernel_rfl) (fun _ _ _ h => h) (Or.inl ⟨by rfl, ?_⟩) hHeld ?_ ?_
    rotate_left
    · rintro w' ⟨s0, s1, s2, s3⟩
      go_simp
      with_reducible rfl
    rotate_left
    · simp only [Act.put, List.setIfInBounds_toArray, List.set_cons_zero, List.set_cons_succ, i64_w, i32_w]
      rfl
    refine pure_ (i := 8) (N := some 71) (v := ?_) (a' := ?_) #[true, false, true, true, true, true, true, true, true, false, false, false, false, false] rfl rfl (by kernel_rfl) (fun _ _ _ h => h) (Or.inl ⟨by rfl, ?_⟩) ?_ ?_
    rotate_left
    · intro w'
      go_simp
      with_reducible rfl
    rotate_left
    · simp only [Act.put, List.setIfInBounds_toArray, List.set_cons_zero, List.set_cons_succ, i64_w, i32_w]
      rfl
    refine pure_ (i := 9) (N := some 72) (v := ?_) (a' := ?_) #[true, false, true, true, true, true, true, true, true, true, false, false, false, false] rfl rfl (by kernel_rfl) (fun _ _ _ h => h) (Or.inl ⟨by rfl, ?_⟩) ?_ ?_
    rotate_left
    · intro w'
      go_simp
      with_reducible rfl
    rotate_left
    · simp only [Act.put, List.setIfInBounds_toArray, List.set_cons_zero, List.set_cons_succ, i64_w, i32_w]
      rfl
    refine pure_ (i := 10) (N := some 73) (v := ?_) (a' := ?_) #[true, false, true, true, true, true, true, true, true, true, true, false, false, false] rfl rfl (by kernel_rfl) (fun _ _ _ h => h) (Or.inl ⟨by rfl, ?_⟩) ?_ ?_
    rotate_left
    · intro w'
      go_simp
      with_reducible rfl
    rotate_left
    · simp only [Act.put, List.setIfInBounds_toArray, List.set_cons_zero, List.set_cons_succ, i64_w, i32_w]
      rfl
    refine join_ (σ := Value × Value) 2 #[true, true, true, true, true, true, true, true, true, true, true, true, false, false] (fun s_ => [(64, s_.1), (74, s_.2)]) (fun s_ w' => (w'.cell? ⟨b, 0, none⟩ = some (.int .i64 X) ∧ w'.cell? ⟨b, 1, none⟩ = some (.int .i64 Y) ∧ w'.cell? ⟨b, 2, none⟩ = some (.int .i64 C) ∧ Aside0 (Below w6.heap.size w6 w')) ∧ Kd.R k36 36 w' w6.heap.size (fun k_ => some k_ ≠ (s_.2 : Value).ownBlock) s_.1 l ∧ Kd.R k36 36 w' w6.heap.size (fun k_ => some k_ ≠ (s_.1 : Value).ownBlock) s_.2 [(⟨Y, X, wrap64 (wrap64 (-C) - 1)⟩ : S36)]) ?_ ?_
    rotate_left
    · intro hCont
      refine two_ (i := 1) (j := 11) (Ni := some 64) (Nj := some 74) #[true, true, true, true, true, true, true, true, true, true, true, false, false, false] #[true, false, true, true, true, true, true, true, true, true, true, true, false, false] rfl rfl rfl rfl (by kernel_rfl) (by decide) (by decide) (fun K hK => ?_) (fun K hK => ?_)
      · skip
        obtain ⟨t0, t1, t2, t3⟩ := hHeld
        refine Kd.R_append_rows_step k36 (w0 := w6) w6.heap.size (by rfl) (.const (.slice none 0 0)) (.tmp 63) 22 36 (.agg #[(.int .i64 0), (.int .i64 0), (.int .i64 0)]) 24 rfl Try.underlying22 info36 rfl (by decide) (by omega) (.slice none 0 0) ([] : List (S36)) l _ _ _ (fun _ => True) (fun _ => False) rfl rfl ?aO ?aR (fun _ _ h => h) (fun _ h => h.elim) ?aF ?aB ?aS ?aL ?_
        (case aR => exact Kd.C_below HC.out.2 (below_step HB6.out t3.out))
        (case aB => exact t3.out)
        (case aF => exact (fun _ _ => trivial))
        (case aO => exact Kd.R_nil _ _ _ _ _)
        (case aS => exact t3.out.size)
        (case aL => simp only [List.length_nil]; omega)
        intro v64 wa ho hb hg hat
        rw [List.nil_append] at ho
        have hR64 := Aside0.mk ho
        have u3 := Aside0.mk hb
        clear ho hb hg hat
        refine hK.out _ _ ⟨(u3.out.cell (World.block_lt_of_cell? _ _ z0)).trans z0, (u3.out.cell (World.block_lt_of_cell? _ _ z1)).trans z1, (u3.out.cell (World.block_lt_of_cell? _ _ z2)).trans z2, u3⟩ (fun hHeld => ?_)
        clear hK K
        refine norm_ (a' := ?_) ?_ ?_
        rotate_left
        · show Act.put _ (some 64) _ = _
          simp only [Act.put, List.setIfInBounds_toArray, List.set_cons_zero, List.set_cons_succ, i64_w, i32_w]
          rfl
        refine one_ (i := 11) (N := some 74) #[true, true, true, true, true, true, true, true, true, true, true, true, false, false] rfl rfl (by kernel_rfl) (by decide) (fun K hK => ?_)
        obtain ⟨t0, t1, t2, t3⟩ := hHeld
        refine Kd.R_lit_step k36 _ 36 ?hg (N := 74) ?hd (xs := ([(⟨Y, X, wrap64 (wrap64 (-C) - 1)⟩ : S36)] : List (S36))) (inner := [.int .i64 Y, .int .i64 X, .int .i64 (wrap64 (wrap64 (-C) - 1))]) (ok := fun _ => True) (okp := fun _ => True) ?hr ?hp (fun _ hk => hk) trivial (Below.refl _ _) (Nat.le_refl _) (by simp) ?_; (case hd => rfl); (case hg => rfl); (case hr => first | (go_simp; done) | (go_simp; rfl)); (case hp => exact (Reps.c3 (show Kd.M k36 _ _ _ (⟨Y, X, wrap64 (wrap64 (-C) - 1)⟩ : S36) [.int .i64 Y, .int .i64 X, .int .i64 (wrap64 (wrap64 (-C) - 1))] from (k36_mkM _ _ _ (⟨Y, X, wrap64 (wrap64 (-C) - 1)⟩ : S36))) (Reps.none _ _)))
        intro v74 wb ho2 hb2 hg2 hnew2
        have u3 := Aside0.mk (below_step t3.out hb2)
        have hR64b := Aside0.mk (Kd.R_elder' hR64.out (Kd.R_base ho2) hb2)
        have hR74b := Aside0.mk (Kd.R_lower (Kd.R_new' ho2 (Kd.R_lt hR64.out)) t3.out.size)
        clear ho2 hb2 hg2 hnew2
        refine hK.out _ _ ⟨(u3.out.cell (World.block_lt_of_cell? _ _ z0)).trans z0, (u3.out.cell (World.block_lt_of_cell? _ _ z1)).trans z1, (u3.out.cell (World.block_lt_of_cell? _ _ z2)).trans z2, u3⟩ (fun hHeld => ?_)
        clear hK K
        refine norm_ (a' := ?_) ?_ ?_
        rotate_left
        · show Act.put _ (some 74) _ = _
          simp only [Act.put, List.setIfInBounds_toArray, List.set_cons_zero, List.set_cons_succ, i64_w, i32_w]
          rfl
        exact norm_ (by first | (simp only [putAll, Act.put, List.setIfInBounds_toArray, List.set_cons_zero, List.set_cons_succ]; done) | (simp only [putAll, Act.put, List.setIfInBounds_toArray, List.set_cons_zero, List.set_cons_succ]; rfl)) (hCont (v64, v74) _ ⟨hHeld, Kd.R_mono hR64b.out (fun _ hk => hk.2), Kd.R_mono hR74b.out (fun _ hk => hk.2)⟩)
      · skip
        obtain ⟨t0, t1, t2, t3⟩ := hHeld
        refine Kd.R_lit_step k36 _ 36 ?hg (N := 74) ?hd (xs := ([(⟨Y, X, wrap64 (wrap64 (-C) - 1)⟩ : S36)] : List (S36))) (inner := [.int .i64 Y, .int .i64 X, .int .i64 (wrap64 (wrap64 (-C) - 1))]) (ok := fun _ => True) (okp := fun _ => True) ?hr ?hp (fun _ hk => hk) trivial (Below.refl _ _) (Nat.le_refl _) (by simp) ?_; (case hd => rfl); (case hg => rfl); (case hr => first | (go_simp; done) | (go_simp; rfl)); (case hp => exact (Reps.c3 (show Kd.M k36 _ _ _ (⟨Y, X, wrap64 (wrap64 (-C) - 1)⟩ : S36) [.int .i64 Y, .int .i64 X, .int .i64 (wrap64 (wrap64 (-C) - 1))] from (k36_mkM _ _ _ (⟨Y, X, wrap64 (wrap64 (-C) - 1)⟩ : S36))) (Reps.none _ _)))
        intro v74 wb ho2 hb2 hg2 hnew2
        have u3 := Aside0.mk (below_step t3.out hb2)
        have hR74 := Aside0.mk (Kd.R_lower ho2 t3.out.size)
        clear ho2 hb2 hg2 hnew2
        refine hK.out _ _ ⟨(u3.out.cell (World.block_lt_of_cell? _ _ z0)).trans z0, (u3.out.cell (World.block_lt_of_cell? _ _ z1)).trans z1, (u3.out.cell (World.block_lt_of_cell? _ _ z2)).trans z2, u3⟩ (fun hHeld => ?_)
        clear hK K
        refine norm_ (a' := ?_) ?_ ?_
        rotate_left
        · show Act.put _ (some 74) _ = _
          simp only [Act.put, List.setIfInBounds_toArray, List.set_cons_zero, List.set_cons_succ, i64_w, i32_w]
          rfl
        refine one_ (i := 1) (N := some 64) #[true, true, true, true, true, true, true, true, true, true, true, true, false, false] rfl rfl (by kernel_rfl) (by decide) (fun K hK => ?_)
        obtain ⟨t0, t1, t2, t3⟩ := hHeld
        refine Kd.R_append_rows_step k36 (w0 := w6) w6.heap.size (by rfl) (.const (.slice none 0 0)) (.tmp 63) 22 36 (.agg #[(.int .i64 0), (.int .i64 0), (.int .i64 0)]) 24 rfl Try.underlying22 info36 rfl (by decide) (by omega) (.slice none 0 0) ([] : List (S36)) l _ _ _ (fun k_ => some k_ ≠ (v74 : Value).ownBlock) (fun _ => False) rfl rfl ?aO ?aR (fun _ _ h => h) (fun _ h => h.elim) ?aF ?aB ?aS ?aL ?_
        (case aR => exact Kd.C_below HC.out.2 (below_step HB6.out t3.out))
        (case aB => exact t3.out)
        (case aF => exact (fun k_ hk => Kd.fresh' (Kd.R_lt hR74.out) k_ hk))
        (case aO => exact Kd.R_nil _ _ _ _ _)
        (case aS => exact t3.out.size)
        (case aL => simp only [List.length_nil]; omega)
        intro v64 wa ho hb hg hat
        rw [List.nil_append] at ho
        have hR64 := Aside0.mk ho
        have u3 := Aside0.mk hb
        have hR74b := Aside0.mk (Kd.R_after (Kd.R_apart_nil hR74.out) hg hat)
        clear ho hb hg hat
        refine hK.out _ _ ⟨(u3.out.cell (World.block_lt_of_cell? _ _ z0)).trans z0, (u3.out.cell (World.block_lt_of_cell? _ _ z1)).trans z1, (u3.out.cell (World.block_lt_of_cell? _ _ z2)).trans z2, u3⟩ (fun hHeld => ?_)
        clear hK K
        refine norm_ (a' := ?_) ?_ ?_
        rotate_left
        · show Act.put _ (some 64) _ = _
          simp only [Act.put, List.setIfInBounds_toArray, List.set_cons_zero, List.set_cons_succ, i64_w, i32_w]
          rfl
        exact norm_ (by first | (simp only [putAll, Act.put, List.setIfInBounds_toArray, List.set_cons_zero, List.set_cons_succ]; done) | (simp only [putAll, Act.put, List.setIfInBounds_toArray, List.set_cons_zero, List.set_cons_succ]; rfl)) (hCont (v64, v74) _ ⟨hHeld, hR64.out, Kd.R_mono hR74b.out (fun _ hk => hk.2)⟩)
    rintro ⟨v64, v74⟩ w' ⟨hHeld, h0_, h1_⟩
    have hR64 := Aside0.mk h0_
    obtain ⟨Ao, co, rfl⟩ := Kd.R_slice h1_
    have hR74 := Aside0.mk h1_
    clear h0_ h1_
    refine norm_ (a' := ?_) ?_ ?_
    rotate_left
    · simp only [putAll, Act.put, List.setIfInBounds_toArray, List.set_cons_zero, List.set_cons_succ]
      rfl
    refine last_ (i := 12) (N := some 75) #[true, true, true, true, true, true, true, true, true, true, true, true, true, false] rfl rfl (by kernel_rfl) (by decide) (fun K hK => ?_)
    obtain ⟨t0, t1, t2, t3⟩ := hHeld
    refine Kd.R_append_rows_step k36 (w0 := w6) w6.heap.size (by rfl) (.tmp 64) (.tmp 74) 22 36 (.agg #[(.int .i64 0), (.int .i64 0), (.int .i64 0)]) 24 rfl Try.underlying22 info36 rfl (by decide) (by omega) v64 l [(⟨Y, X, wrap64 (wrap64 (-C) - 1)⟩ : S36)] _ _ _ (fun k_ => some k_ ≠ (.slice Ao [(⟨Y, X, wrap64 (wrap64 (-C) - 1)⟩ : S36)].length co : Value).ownBlock) (fun _ => False) rfl rfl ?aO ?aR (fun _ _ h => h) (fun _ h => h.elim) ?aF ?aB ?aS ?aL ?_
    (case aR => exact (Kd.R_reads' hR74.out).2.2)
    (case aB => exact t3.out)
    (case aF => exact (fun k_ hk => Kd.fresh' (Kd.R_lt hR74.out) k_ hk))
    (case aO => exact hR64.out)
    (case aS => exact t3.out.size)
    (case aL => simp only [List.length_cons, List.length_nil]; omega)
    intro v75 w9 ho hb hg hat
    have HR9 := Aside0.mk (Kd.R_mono ho (fun _ _ => trivial) : Kd.R k36 36 w9 w6.heap.size (fun _ => True) v75 (l ++ [(⟨Y, X, wrap64 (wrap64 (-C) - 1)⟩ : S36)]))
    have HB9 := Aside0.mk hb
    clear ho hb hg hat
    refine hK.out _ _ ?_
    clear hK K
    refine norm_ (a' := ?_) ?_ ?_
    rotate_left
    · show Act.put _ (some 75) _ = _
      simp only [Act.put, List.setIfInBounds_toArray, List.set_cons_zero, List.set_cons_succ, i64_w, i32_w]
      rfl
    refine pure_ (i := 13) (N := some 15) (v := ?_) (a' := ?_) #[true, true, true, true, true, true, true, true, true, true, true, true, true, true] rfl rfl (by kernel_rfl) (fun _ _ _ h => h) (Or.inl ⟨by rfl, ?_⟩) ?_ ?_
    rotate_left
    · intro w'
      go_simp
      with_reducible rfl
    rotate_left
    · simp only [Act.put, List.setIfInBounds_toArray, List.set_cons_zero, List.set_cons_succ, i64_w, i32_w]
      rfl
    refine done_ (by kernel_rfl) ?_
    obtain ⟨A9, c9, rfl⟩ := Kd.R_slice HR9.out
    have HC9 := Aside0.mk (Kd.R_reads' HR9.out).2
    clear HR9
    obtain ⟨L9, hL9⟩ : ∃ L9, L9 = l ++ [(⟨Y, X, wrap64 (wrap64 (-C) - 1)⟩ : S36)] := ⟨_, rfl⟩
    rw [← hL9] at HC9 HS2 ⊢
    clear hL9
    go_wp2_with fail
    refine (diff_Solve.calls k (n : Int) A9 c9 L9 s2 cy2 op w9 HC9.out.2 HC9.out.1 HS2.out).mono ?_
    rintro e w10 ⟨u0, u1, rfl, _, _, HBt⟩
    have HBC := Aside0.mk (below_step HB9.out HBt)
    clear HBt HC9 HB9
    have z0' : w10.cell? ⟨b, 0, none⟩ = some (.int .i64 X) := (HBC.out.cell (World.block_lt_of_cell? _ _ z0)).trans z0
    have z1' : w10.cell? ⟨b, 1, none⟩ = some (.int .i64 Y) := (HBC.out.cell (World.block_lt_of_cell? _ _ z1)).trans z1
    have z2' : w10.cell? ⟨b, 2, none⟩ = some (.int .i64 C) := (HBC.out.cell (World.block_lt_of_cell? _ _ z2)).trans z2
    go_wp2_with fail
    refine (diff_Entails.calls k (n : Int) A1 c1 l X Y C (!op) w10 (Kd.C_below HC.out.2 (below_step HB6.out HBC.out)) HC.out.1 HEN.out).mono ?_
    rintro e w11 ⟨rfl, HBt⟩
    have HBD := Aside0.mk (below_step HBC.out HBt)
    clear HBt HBC z0' z1' z2'
    have z0' : w11.cell? ⟨b, 0, none⟩ = some (.int .i64 X) := (HBD.out.cell (World.block_lt_of_cell? _ _ z0)).trans z0
    have z1' : w11.cell? ⟨b, 1, none⟩ = some (.int .i64 Y) := (HBD.out.cell (World.block_lt_of_cell? _ _ z1)).trans z1
    have z2' : w11.cell? ⟨b, 2, none⟩ = some (.int .i64 C) := (HBD.out.cell (World.block_lt_of_cell? _ _ z2)).trans z2
    cases op with
    | true =>
      go_wp2_with fail
      refine (interleavelaw32_awake.calls k true w11 HHA.out).mono ?_
      rintro e w12 ⟨rfl, HB8⟩
      have HBf := Aside0.mk (below_step HBw.out (below_step HB6.out (below_step HBD.out HB8)))
      clear HB8
      go_wp2
      go_ret
      exact ⟨rfl, HBf.out⟩
    | false =>
      go_wp2_with fail
      refine (diff_Holds.calls _ 1 [(⟨X, Y, C⟩ : S36)] A2 c2 s true _ (interleavelaw32_DiffFollows.one w11 X Y C) (by simp) (Kd.C_below HX2.out.2 (below_alloc HBD.out _)) HX2.out.1 (by have h := HOP.out; simpa using h)).mono ?_
      rintro e w12 ⟨rfl, HBt⟩
      have HBE := Aside0.mk (below_step (below_alloc HBD.out (.cells #[.int .i64 X, .int .i64 Y, .int .i64 C] 36)) HBt)
      clear HBt
      go_wp2_with fail
      refine (interleavelaw32_awake.calls k true w12 HHA.out).mono ?_
      rintro e w13 ⟨rfl, HB8⟩
      have HBf := Aside0.mk (below_step HBw.out (below_step HB6.out (below_step HBE.out HB8)))
      clear HB8
      go_wp2
      go_ret
      exact ⟨rfl, HBf.out⟩


end Go.Proofs.Ytolfnlamknmeaaa.MDiffFollows
