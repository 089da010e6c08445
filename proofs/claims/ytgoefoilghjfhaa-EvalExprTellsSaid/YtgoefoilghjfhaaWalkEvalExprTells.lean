/- EvalExprTells: what the law's own function does, step by step, at every system that the made problem may give. -/
import Derived.Test.YtgoefoilghjfhaaMEvalExprTellsx
import Derived.Outline
import Derived.OneCell
namespace Go.Proofs.Ytgoefoilghjfhaa.MEvalExprTells
open Go.RowKit Go.Proofs.YtgoefoilghjfhaaW.PrintWords Go.Proofs.YtgoefoilghjfhaaW.PrintLast Go.Proofs.YtgoefoilghjfhaaW.PrintMore
attribute [local go_sem] max2_int min2_int max_two min_two max_three min_three max_four min_four
set_option linter.unusedVariables false
set_option linter.unusedSimpArgs false
set_option maxHeartbeats 8000000 in
set_option maxRecDepth 100000 in
theorem interleavelaw05_EvalExprTells.calls (w : World) (A0 : Option Addr) (c0 : Nat) (l0 : List Int) (op n : Int) (nm : ByteArray) (A : Option Addr) (c : Nat) (l : List S36) (An : Option Addr) (cn : Nat) (names : List ByteArray) (Av0 : Option Addr) (cv0 : Nat) (vals : List Int)
    (hr0 : Kd.C (Kd.int .u8) w A0 l0.length l0) (hc0 : l0.length ≤ c0) (hu : ∀ x ∈ l0, 0 ≤ x ∧ x ≤ 255) (hre : Kd.C k36 w A l.length l) (hce : l.length ≤ c) (hrn : Kd.C Kd.string w An names.length names) (hcn : names.length ≤ cn) (hrv : Kd.C (Kd.int .i64) w Av0 vals.length vals) (hcv : vals.length ≤ cv0)
    (H1 : names.length ≤ 100 → ∃ (k : Nat) (a : Int) (ok : Bool), eval_Expr.f k op n nm l names vals = some (a, ok) ∧ interleaveref05_Expr.f k op n nm l names vals = some (a, ok) ∧ interleavelaw05_awake.f k = some true)
    (H2 : ∀ vn, interleavelaw05_variables.f = some vn → ∀ (yo yn : Int) (ym : ByteArray) (ly : List S36), interleavemade_loose_expr.Sm 5 ly → ∃ (k : Nat) (a : Int) (ok : Bool), eval_Expr.f k yo yn ym ly vn vals = some (a, ok) ∧ interleaveref05_Expr.f k yo yn ym ly vn vals = some (a, ok)) :
    Calls Try.prog 8 #[.slice A0 l0.length c0, .agg #[.int .i64 op, .int .i64 n, .string nm, .slice A l.length c], .slice An names.length cn, .slice Av0 vals.length cv0] w fun e w' => e = .returned (.bool true) ∧ Below w.heap.size w w' := by
  have hu36 := Try.underlying36
  have HR := Aside0.mk (And.intro hr0 (And.intro hre (And.intro hrn hrv)))
  have HU := Aside0.mk hu
  have HH1 := Aside0.mk H1
  have HH2 := Aside0.mk H2
  clear hr0 hre hrn hrv hu H1 H2
  have hb0 : (w.alloc (.cells #[.int .i64 op, .int .i64 n, .string nm, .slice A l.length c] 36)).heap[w.heap.size]? = some (.cells #[.int .i64 op, .int .i64 n, .string nm, .slice A l.length c] 36 (0, 0)) := blk_new _ _
  have HB0 := Aside0.mk hb0
  have HBW0 := Aside0.mk (below_alloc (Below.refl w.heap.size w) (.cells #[.int .i64 op, .int .i64 n, .string nm, .slice A l.length c] 36))
  clear hb0
  go_enter Try.func8, Try.ntmps8
  by_cases hl : l0.length ≤ 300
  · have hl' : (300 < (l0.length : Int)) = False := eq_false (by omega)
    have hln : (300 < l0.length) = False := eq_false (by omega)
    by_cases hn : names.length ≤ 100
    · have hn' : (100 < (names.length : Int)) = False := eq_false (by omega)
      have hnn : (100 < names.length) = False := eq_false (by omega)
      go_wp2_with fail
      refine (interleavemade_Expr.calls (w.alloc (.cells #[.int .i64 op, .int .i64 n, .string nm, .slice A l.length c] 36)) A0 c0 l0 (Kd.C_below HR.out.1 HBW0.out) hc0 HU.out hl).mono ?_
      rintro e w1 ⟨yo, yn, ym, vy, ly, rfl, hV, hSm, hB1⟩
      obtain ⟨Ay, cy, rfl⟩ := Kd.V_slice hV
      obtain ⟨k1, a1, ok1, hE1, hF1, hA1⟩ := HH1.out hn
      obtain ⟨vn, hvn⟩ : ∃ r, interleavelaw05_variables.f = some r := ⟨_, rfl⟩
      obtain ⟨k2, a2, ok2, hE2, hF2⟩ := HH2.out vn hvn yo yn ym ly hSm
      have HE1 := Aside0.mk hE1
      have HF1 := Aside0.mk hF1
      have HA1 := Aside0.mk hA1
      have HE2 := Aside0.mk hE2
      have HF2 := Aside0.mk hF2
      have HVN := Aside0.mk hvn
      have HV2 := Aside0.mk (Kd.V_alloc hV (.cells #[.int .i64 yo, .int .i64 yn, .string ym, .slice Ay ly.length cy] 36))
      have HB2 := Aside0.mk (blk_alloc (blk_below HB0.out hB1) (.cells #[.int .i64 yo, .int .i64 yn, .string ym, .slice Ay ly.length cy] 36))
      have HY2 : Aside0 ((w1.alloc (.cells #[.int .i64 yo, .int .i64 yn, .string ym, .slice Ay ly.length cy] 36)).heap[w1.heap.size]? = some (.cells #[.int .i64 yo, .int .i64 yn, .string ym, .slice Ay ly.length cy] 36 (0, 0))) := ⟨blk_new _ _⟩
      have HBW2 := Aside0.mk (below_alloc (below_step HBW0.out hB1) (.cells #[.int .i64 yo, .int .i64 yn, .string ym, .slice Ay ly.length cy] 36))
      clear hE1 hF1 hA1 hE2 hF2 hvn hV hSm hB1 HB0 HBW0 HH1 HH2
      have x0 : (w1.alloc (.cells #[.int .i64 yo, .int .i64 yn, .string ym, .slice Ay ly.length cy] 36)).cell? ⟨w.heap.size, 0, none⟩ = some (.int .i64 op) := (blk_cell HB2.out 0).trans rfl
      have x1 : (w1.alloc (.cells #[.int .i64 yo, .int .i64 yn, .string ym, .slice Ay ly.length cy] 36)).cell? ⟨w.heap.size, 1, none⟩ = some (.int .i64 n) := (blk_cell HB2.out 1).trans rfl
      have x2 : (w1.alloc (.cells #[.int .i64 yo, .int .i64 yn, .string ym, .slice Ay ly.length cy] 36)).cell? ⟨w.heap.size, 2, none⟩ = some (.string nm) := (blk_cell HB2.out 2).trans rfl
      have x3 : (w1.alloc (.cells #[.int .i64 yo, .int .i64 yn, .string ym, .slice Ay ly.length cy] 36)).cell? ⟨w.heap.size, 3, none⟩ = some (.slice A l.length c) := (blk_cell HB2.out 3).trans rfl
      go_wp2_with fail
      obtain ⟨b3, hb3⟩ : ∃ b, b = w1.heap.size := ⟨_, rfl⟩
      obtain ⟨w2, hw2⟩ : ∃ w2, w2 = w1.alloc (.cells #[.int .i64 yo, .int .i64 yn, .string ym, .slice Ay ly.length cy] 36) := ⟨_, rfl⟩
      rw [← hb3] at HY2 ⊢
      rw [← hw2] at HV2 HB2 HY2 HBW2 ⊢
      clear hw2 hb3 x0 x1 x2 x3
      refine (eval_Expr.calls k1 op n nm A c l An cn names Av0 cv0 vals a1 ok1 w2 (Kd.C_below HR.out.2.1 HBW2.out) hce (Kd.C_below HR.out.2.2.1 HBW2.out) hcn (Kd.C_below HR.out.2.2.2 HBW2.out) hcv HE1.out).mono ?_
      rintro e w3 ⟨rfl, hB3⟩
      have HV3 := Aside0.mk (Kd.V_below HV2.out hB3)
      have HB3 := Aside0.mk (blk_below HB2.out hB3)
      have HY3 := Aside0.mk (blk_below HY2.out hB3)
      have HBW3 := Aside0.mk (below_step HBW2.out hB3)
      clear hB3 HV2 HB2 HY2 HBW2
      have x0 : (w3).cell? ⟨w.heap.size, 0, none⟩ = some (.int .i64 op) := (blk_cell HB3.out 0).trans rfl
      have x1 : (w3).cell? ⟨w.heap.size, 1, none⟩ = some (.int .i64 n) := (blk_cell HB3.out 1).trans rfl
      have x2 : (w3).cell? ⟨w.heap.size, 2, none⟩ = some (.string nm) := (blk_cell HB3.out 2).trans rfl
      have x3 : (w3).cell? ⟨w.heap.size, 3, none⟩ = some (.slice A l.length c) := (blk_cell HB3.out 3).trans rfl
      go_wp2_with fail
      refine (interleaveref05_Expr.calls k1 op n nm A c l An cn names Av0 cv0 vals a1 ok1 w3 (Kd.C_below HR.out.2.1 HBW3.out) hce (Kd.C_below HR.out.2.2.1 HBW3.out) hcn (Kd.C_below HR.out.2.2.2 HBW3.out) hcv HF1.out).mono ?_
      rintro e w4 ⟨rfl, hB4⟩
      have HV4 := Aside0.mk (Kd.V_below HV3.out hB4)
      have HY4 := Aside0.mk (blk_below HY3.out hB4)
      have HBW4 := Aside0.mk (below_step HBW3.out hB4)
      clear hB4 HV3 HB3 HY3 HBW3 x0 x1 x2 x3
      have z0 : (w4).cell? ⟨b3, 0, none⟩ = some (.int .i64 yo) := (blk_cell HY4.out 0).trans rfl
      have z1 : (w4).cell? ⟨b3, 1, none⟩ = some (.int .i64 yn) := (blk_cell HY4.out 1).trans rfl
      have z2 : (w4).cell? ⟨b3, 2, none⟩ = some (.string ym) := (blk_cell HY4.out 2).trans rfl
      have z3 : (w4).cell? ⟨b3, 3, none⟩ = some (.slice Ay ly.length cy) := (blk_cell HY4.out 3).trans rfl
      go_wp2_with fail
      refine start_ (n := 9) (S := fun w' => w'.cell? ⟨b3, 0, none⟩ = some (.int .i64 yo) ∧ w'.cell? ⟨b3, 1, none⟩ = some (.int .i64 yn) ∧ w'.cell? ⟨b3, 2, none⟩ = some (.string ym) ∧ w'.cell? ⟨b3, 3, none⟩ = some (.slice Ay ly.length cy) ∧ Aside0 (Below w4.heap.size w4 w')) (ds := []) #[false, false, false, false, false, false, false, false, false] (by kernel_rfl) rfl rfl ⟨z0, z1, z2, z3, ⟨below_drew (Below.refl _ _)⟩⟩ (fun hHeld => ?_)
      refine pure_ (i := 2) (N := some 45) (v := ?_) (a' := ?_) #[false, false, true, false, false, false, false, false, false] rfl rfl (by kernel_rfl) (fun _ _ _ h => h) (Or.inl ⟨by rfl, ?_⟩) ?_ ?_
      rotate_left
      · intro w'
        go_simp
        with_reducible rfl
      rotate_left
      · simp only [Act.put, List.setIfInBounds_toArray, List.set_cons_zero, List.set_cons_succ, i64_w, i32_w]
        rfl
      refine take_ (i := 0) (N := some 43) (v := ?_) (a' := ?_) #[true, false, true, false, false, false, false, false, false] rfl rfl (by kernel_rfl) (fun _ _ _ h => h) (Or.inl ⟨by rfl, ?_⟩) hHeld ?_ ?_
      rotate_left
      · rintro w' ⟨s0, s1, s2, s3, s4⟩
        go_simp
        with_reducible rfl
      rotate_left
      · simp only [Act.put, List.setIfInBounds_toArray, List.set_cons_zero, List.set_cons_succ, i64_w, i32_w]
        rfl
      refine one_ (i := 1) (N := some 44) #[true, true, true, false, false, false, false, false, false] rfl rfl (by kernel_rfl) (by decide) (fun K hK => ?_)
      obtain ⟨t0, t1, t2, t3, t4⟩ := hHeld
      refine goes_ Try.func19 (by kernel_rfl) rfl #[] (by rfl) rfl rfl (by first | (simp only [List.map_toArray, List.map_cons, List.map_nil]; done) | (simp only [List.map_toArray, List.map_cons, List.map_nil]; rfl)) ?_
      with_reducible refine (interleavelaw05_variables.calls vn _ HVN.out).mono ?_
      rintro e wv ⟨vv, rfl, hRv, hBv⟩
      obtain ⟨Av, cv, rfl⟩ := Kd.R_slice hRv
      have HRv := Aside0.mk (Kd.R_reads' hRv).2
      have u4 := Aside0.mk (below_step t4.out hBv)
      refine ⟨_, rfl, ?_⟩
      refine hK.out _ _ ⟨(hBv.cell (World.block_lt_of_cell? _ _ t0)).trans t0, (hBv.cell (World.block_lt_of_cell? _ _ t1)).trans t1, (hBv.cell (World.block_lt_of_cell? _ _ t2)).trans t2, (hBv.cell (World.block_lt_of_cell? _ _ t3)).trans t3, u4⟩ (fun hHeld => ?_)
      clear hK K
      refine norm_ (a' := ?_) ?_ ?_
      rotate_left
      · show Act.put _ (some 44) _ = _
        simp only [Act.put, List.setIfInBounds_toArray, List.set_cons_zero, List.set_cons_succ, i64_w, i32_w]
        rfl
      refine one_ (i := 3) (N := some 46) #[true, true, true, true, false, false, false, false, false] rfl rfl (by kernel_rfl) (by decide) (fun K hK => ?_)
      obtain ⟨t0, t1, t2, t3, t4⟩ := hHeld
      refine goes_ Try.func17 (by kernel_rfl) rfl #[.agg #[.int .i64 yo, .int .i64 yn, .string ym, .slice Ay ly.length cy], .slice Av vn.length cv, .slice Av0 vals.length cv0] (by rfl) rfl rfl (by simp only [List.map_toArray, List.map_cons, List.map_nil]; rfl) ?_
      with_reducible refine (eval_Expr.calls k2 yo yn ym Ay cy ly Av cv vn Av0 cv0 vals a2 ok2 _ (Kd.C_below (Kd.V_reads' HV4.out).2.2 t4.out) (Kd.V_reads' HV4.out).2.1 HRv.out.2 HRv.out.1 (Kd.C_below HR.out.2.2.2 (below_step HBW4.out t4.out)) hcv HE2.out).mono ?_
      rintro e wf ⟨rfl, hBf⟩
      refine ⟨_, rfl, ?_⟩
      refine hK.out _ _ ⟨(hBf.cell (World.block_lt_of_cell? _ _ t0)).trans t0, (hBf.cell (World.block_lt_of_cell? _ _ t1)).trans t1, (hBf.cell (World.block_lt_of_cell? _ _ t2)).trans t2, (hBf.cell (World.block_lt_of_cell? _ _ t3)).trans t3, ⟨below_step t4.out hBf⟩⟩ (fun hHeld => ?_)
      clear hK K
      refine norm_ (a' := ?_) ?_ ?_
      rotate_left
      · show Act.put _ (some 46) _ = _
        simp only [Act.put, List.setIfInBounds_toArray, List.set_cons_zero, List.set_cons_succ, i64_w, i32_w]
        rfl
      refine pure_ (i := 4) (N := some 42) (v := ?_) (a' := ?_) #[true, true, true, true, true, false, false, false, false] rfl rfl (by kernel_rfl) (fun _ _ _ h => h) (Or.inl ⟨by rfl, ?_⟩) ?_ ?_
      rotate_left
      · intro w'
        go_simp
        with_reducible rfl
      rotate_left
      · simp only [Act.put, List.setIfInBounds_toArray, List.set_cons_zero, List.set_cons_succ, i64_w, i32_w]
        rfl
      refine pure_ (i := 5) (N := some 47) (v := ?_) (a' := ?_) #[true, true, true, true, true, true, false, false, false] rfl rfl (by kernel_rfl) (fun _ _ _ h => h) (Or.inl ⟨by rfl, ?_⟩) ?_ ?_
      rotate_left
      · intro w'
        go_simp
        with_reducible rfl
      rotate_left
      · simp only [Act.put, List.setIfInBounds_toArray, List.set_cons_zero, List.set_cons_succ, i64_w, i32_w]
        rfl
      refine pure_ (i := 6) (N := some 48) (v := ?_) (a' := ?_) #[true, true, true, true, true, true, true, false, false] rfl rfl (by kernel_rfl) (fun _ _ _ h => h) (Or.inl ⟨by rfl, ?_⟩) ?_ ?_
      rotate_left
      · intro w'
        go_simp
        with_reducible rfl
      rotate_left
      · simp only [Act.put, List.setIfInBounds_toArray, List.set_cons_zero, List.set_cons_succ, i64_w, i32_w]
        rfl
      refine pure_ (i := 7) (N := some 14) (v := ?_) (a' := ?_) #[true, true, true, true, true, true, true, true, false] rfl rfl (by kernel_rfl) (fun _ _ _ h => h) (Or.inl ⟨by rfl, ?_⟩) ?_ ?_
      rotate_left
      · intro w'
        go_simp
        with_reducible rfl
      rotate_left
      · simp only [Act.put, List.setIfInBounds_toArray, List.set_cons_zero, List.set_cons_succ, i64_w, i32_w]
        rfl
      refine pure_ (i := 8) (N := some 15) (v := ?_) (a' := ?_) #[true, true, true, true, true, true, true, true, true] rfl rfl (by kernel_rfl) (fun _ _ _ h => h) (Or.inl ⟨by rfl, ?_⟩) ?_ ?_
      rotate_left
      · intro w'
        go_simp
        with_reducible rfl
      rotate_left
      · simp only [Act.put, List.setIfInBounds_toArray, List.set_cons_zero, List.set_cons_succ, i64_w, i32_w]
        rfl
      refine done_ (by kernel_rfl) ?_
      obtain ⟨_, _, _, _, hBz⟩ := hHeld
      have HV5 := Aside0.mk (Kd.V_below HV4.out hBz.out)
      have HY5 := Aside0.mk (blk_below HY4.out hBz.out)
      have HBW5 := Aside0.mk (below_step HBW4.out hBz.out)
      obtain ⟨w5, hw5⟩ : ∃ w5, w5 = wf := ⟨_, rfl⟩
      rw [← hw5] at HV5 HY5 HBW5 ⊢
      clear hw5 hBz HV4 HY4 HBW4 z0 z1 z2 z3 t0 t1 t2 t3 t4 u4 HRv hRv hBv hBf
      have z0 : (w5).cell? ⟨b3, 0, none⟩ = some (.int .i64 yo) := (blk_cell HY5.out 0).trans rfl
      have z1 : (w5).cell? ⟨b3, 1, none⟩ = some (.int .i64 yn) := (blk_cell HY5.out 1).trans rfl
      have z2 : (w5).cell? ⟨b3, 2, none⟩ = some (.string ym) := (blk_cell HY5.out 2).trans rfl
      have z3 : (w5).cell? ⟨b3, 3, none⟩ = some (.slice Ay ly.length cy) := (blk_cell HY5.out 3).trans rfl
      go_wp2_with fail
      refine start_ (n := 9) (S := fun w' => w'.cell? ⟨b3, 0, none⟩ = some (.int .i64 yo) ∧ w'.cell? ⟨b3, 1, none⟩ = some (.int .i64 yn) ∧ w'.cell? ⟨b3, 2, none⟩ = some (.string ym) ∧ w'.cell? ⟨b3, 3, none⟩ = some (.slice Ay ly.length cy) ∧ Aside0 (Below w5.heap.size w5 w')) (ds := []) #[false, false, false, false, false, false, false, false, false] (by kernel_rfl) rfl rfl ⟨z0, z1, z2, z3, ⟨below_drew (Below.refl _ _)⟩⟩ (fun hHeld => ?_)
      refine pure_ (i := 2) (N := some 52) (v := ?_) (a' := ?_) #[false, false, true, false, false, false, false, false, false] rfl rfl (by kernel_rfl) (fun _ _ _ h => h) (Or.inl ⟨by rfl, ?_⟩) ?_ ?_
      rotate_left
      · intro w'
        go_simp
        with_reducible rfl
      rotate_left
      · simp only [Act.put, List.setIfInBounds_toArray, List.set_cons_zero, List.set_cons_succ, i64_w, i32_w]
        rfl
      refine take_ (i := 0) (N := some 50) (v := ?_) (a' := ?_) #[true, false, true, false, false, false, false, false, false] rfl rfl (by kernel_rfl) (fun _ _ _ h => h) (Or.inl ⟨by rfl, ?_⟩) hHeld ?_ ?_
      rotate_left
      · rintro w' ⟨s0, s1, s2, s3, s4⟩
        go_simp
        with_reducible rfl
      rotate_left
      · simp only [Act.put, List.setIfInBounds_toArray, List.set_cons_zero, List.set_cons_succ, i64_w, i32_w]
        rfl
      refine one_ (i := 1) (N := some 51) #[true, true, true, false, false, false, false, false, false] rfl rfl (by kernel_rfl) (by decide) (fun K hK => ?_)
      obtain ⟨t0, t1, t2, t3, t4⟩ := hHeld
      refine goes_ Try.func19 (by kernel_rfl) rfl #[] (by rfl) rfl rfl (by first | (simp only [List.map_toArray, List.map_cons, List.map_nil]; done) | (simp only [List.map_toArray, List.map_cons, List.map_nil]; rfl)) ?_
      with_reducible refine (interleavelaw05_variables.calls vn _ HVN.out).mono ?_
      rintro e wv ⟨vv, rfl, hRv, hBv⟩
      obtain ⟨Av, cv, rfl⟩ := Kd.R_slice hRv
      have HRv := Aside0.mk (Kd.R_reads' hRv).2
      have u4 := Aside0.mk (below_step t4.out hBv)
      refine ⟨_, rfl, ?_⟩
      refine hK.out _ _ ⟨(hBv.cell (World.block_lt_of_cell? _ _ t0)).trans t0, (hBv.cell (World.block_lt_of_cell? _ _ t1)).trans t1, (hBv.cell (World.block_lt_of_cell? _ _ t2)).trans t2, (hBv.cell (World.block_lt_of_cell? _ _ t3)).trans t3, u4⟩ (fun hHeld => ?_)
      clear hK K
      refine norm_ (a' := ?_) ?_ ?_
      rotate_left
      · show Act.put _ (some 51) _ = _
        simp only [Act.put, List.setIfInBounds_toArray, List.set_cons_zero, List.set_cons_succ, i64_w, i32_w]
        rfl
      refine one_ (i := 3) (N := some 53) #[true, true, true, true, false, false, false, false, false] rfl rfl (by kernel_rfl) (by decide) (fun K hK => ?_)
      obtain ⟨t0, t1, t2, t3, t4⟩ := hHeld
      refine goes_ Try.func18 (by kernel_rfl) rfl #[.agg #[.int .i64 yo, .int .i64 yn, .string ym, .slice Ay ly.length cy], .slice Av vn.length cv, .slice Av0 vals.length cv0] (by rfl) rfl rfl (by simp only [List.map_toArray, List.map_cons, List.map_nil]; rfl) ?_
      with_reducible refine (interleaveref05_Expr.calls k2 yo yn ym Ay cy ly Av cv vn Av0 cv0 vals a2 ok2 _ (Kd.C_below (Kd.V_reads' HV5.out).2.2 t4.out) (Kd.V_reads' HV5.out).2.1 HRv.out.2 HRv.out.1 (Kd.C_below HR.out.2.2.2 (below_step HBW5.out t4.out)) hcv HF2.out).mono ?_
      rintro e wf ⟨rfl, hBf⟩
      refine ⟨_, rfl, ?_⟩
      refine hK.out _ _ ⟨(hBf.cell (World.block_lt_of_cell? _ _ t0)).trans t0, (hBf.cell (World.block_lt_of_cell? _ _ t1)).trans t1, (hBf.cell (World.block_lt_of_cell? _ _ t2)).trans t2, (hBf.cell (World.block_lt_of_cell? _ _ t3)).trans t3, ⟨below_step t4.out hBf⟩⟩ (fun hHeld => ?_)
      clear hK K
      refine norm_ (a' := ?_) ?_ ?_
      rotate_left
      · show Act.put _ (some 53) _ = _
        simp only [Act.put, List.setIfInBounds_toArray, List.set_cons_zero, List.set_cons_succ, i64_w, i32_w]
        rfl
      refine pure_ (i := 4) (N := some 49) (v := ?_) (a' := ?_) #[true, true, true, true, true, false, false, false, false] rfl rfl (by kernel_rfl) (fun _ _ _ h => h) (Or.inl ⟨by rfl, ?_⟩) ?_ ?_
      rotate_left
      · intro w'
        go_simp
        with_reducible rfl
      rotate_left
      · simp only [Act.put, List.setIfInBounds_toArray, List.set_cons_zero, List.set_cons_succ, i64_w, i32_w]
        rfl
      refine pure_ (i := 5) (N := some 54) (v := ?_) (a' := ?_) #[true, true, true, true, true, true, false, false, false] rfl rfl (by kernel_rfl) (fun _ _ _ h => h) (Or.inl ⟨by rfl, ?_⟩) ?_ ?_
      rotate_left
      · intro w'
        go_simp
        with_reducible rfl
      rotate_left
      · simp only [Act.put, List.setIfInBounds_toArray, List.set_cons_zero, List.set_cons_succ, i64_w, i32_w]
        rfl
      refine pure_ (i := 6) (N := some 55) (v := ?_) (a' := ?_) #[true, true, true, true, true, true, true, false, false] rfl rfl (by kernel_rfl) (fun _ _ _ h => h) (Or.inl ⟨by rfl, ?_⟩) ?_ ?_
      rotate_left
      · intro w'
        go_simp
        with_reducible rfl
      rotate_left
      · simp only [Act.put, List.setIfInBounds_toArray, List.set_cons_zero, List.set_cons_succ, i64_w, i32_w]
        rfl
      refine pure_ (i := 7) (N := some 16) (v := ?_) (a' := ?_) #[true, true, true, true, true, true, true, true, false] rfl rfl (by kernel_rfl) (fun _ _ _ h => h) (Or.inl ⟨by rfl, ?_⟩) ?_ ?_
      rotate_left
      · intro w'
        go_simp
        with_reducible rfl
      rotate_left
      · simp only [Act.put, List.setIfInBounds_toArray, List.set_cons_zero, List.set_cons_succ, i64_w, i32_w]
        rfl
      refine pure_ (i := 8) (N := some 17) (v := ?_) (a' := ?_) #[true, true, true, true, true, true, true, true, true] rfl rfl (by kernel_rfl) (fun _ _ _ h => h) (Or.inl ⟨by rfl, ?_⟩) ?_ ?_
      rotate_left
      · intro w'
        go_simp
        with_reducible rfl
      rotate_left
      · simp only [Act.put, List.setIfInBounds_toArray, List.set_cons_zero, List.set_cons_succ, i64_w, i32_w]
        rfl
      refine done_ (by kernel_rfl) ?_
      obtain ⟨_, _, _, _, hBz⟩ := hHeld
      have HBW6 := Aside0.mk (below_step HBW5.out hBz.out)
      clear hBz
      go_wp2_with fail
      refine (interleavelaw05_awake.calls k1 true _ HA1.out).mono ?_
      rintro e w7 ⟨rfl, ⟨⟨kq, rfl⟩⟩⟩
      go_wp2
      go_ret
      exact ⟨rfl, pw_below_drewN HBW6.out _⟩
    · have hn' : (100 < (names.length : Int)) = True := eq_true (by omega)
      have hnn : (100 < names.length) = True := eq_true (by omega)
      go_wp2
      go_ret
      exact ⟨rfl, HBW0.out⟩
  · have hl' : (300 < (l0.length : Int)) = True := eq_true (by omega)
    have hln : (300 < l0.length) = True := eq_true (by omega)
    go_wp2
    go_ret
    exact ⟨rfl, HBW0.out⟩


end Go.Proofs.Ytgoefoilghjfhaa.MEvalExprTells
