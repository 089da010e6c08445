-- Written by a program of this session (wip/myprint in its repo: the kit's print with additions of its own).
import Derived.Test.YtgoefoilghjfhaaMEvalExprTellsx0
import Derived.Test.YtgoefoilghjfhaaMEvalExprTellsx1
import Derived.Test.YtgoefoilghjfhaaMEvalExprTellsx2
namespace Go.Proofs.Ytgoefoilghjfhaa.MEvalExprTells
open Go.RowKit Go.Proofs.YtgoefoilghjfhaaW.PrintWords Go.Proofs.YtgoefoilghjfhaaW.PrintLast Go.Proofs.YtgoefoilghjfhaaW.PrintMore
attribute [local go_sem] max2_int min2_int max_two min_two max_three min_three max_four min_four   -- for this text's walks alone
set_option linter.unusedVariables false
set_option linter.unusedSimpArgs false

/-! ### interleavemade_Expr: function 16 -/
set_option maxHeartbeats 8000000 in
set_option maxRecDepth 100000 in
theorem interleavemade_Expr.calls (w : World) (A : Option Addr) (c : Nat) (L0 : List Int) (hr : Kd.C (Kd.int .u8) w A L0.length L0) (hc : L0.length ≤ c) (hu : ∀ x ∈ L0, 0 ≤ x ∧ x ≤ 255) (hl : L0.length ≤ 300) :
    Calls Try.prog 16 #[.slice A L0.length c] w fun e w' => ∃ (op n : Int) (nm : ByteArray) (v : Value) (l : List S36), e = .returned (.agg #[.int .i64 op, .int .i64 n, .string nm, v]) ∧ Kd.V k36 36 w' w.heap.size (fun k => w.heap.size ≤ k) v l ∧ interleavemade_loose_expr.Sm 5 l ∧ Below w.heap.size w w' := by
  have hu36 := Try.underlying36
  have HU := Aside0.mk hu
  have hb1 : (w.alloc (.cells #[.int .i64 0, .int .i64 0, .string ⟨#[]⟩, .slice none 0 0] 36)).heap[w.heap.size]? = some (.cells #[.int .i64 0, .int .i64 0, .string ⟨#[]⟩, .slice none 0 0] 36 (0, 0)) := blk_new _ _
  have hb2 : ((w.alloc (.cells #[.int .i64 0, .int .i64 0, .string ⟨#[]⟩, .slice none 0 0] 36)).alloc (.cells #[.slice A L0.length c, .int .i64 0] 49)).heap[w.heap.size + 1]? = some (.cells #[.slice A L0.length c, .int .i64 0] 49 (0, 0)) := by simpa using blk_new (w.alloc (.cells #[.int .i64 0, .int .i64 0, .string ⟨#[]⟩, .slice none 0 0] 36)) (.cells #[.slice A L0.length c, .int .i64 0] 49)
  have hb3 : (((w.alloc (.cells #[.int .i64 0, .int .i64 0, .string ⟨#[]⟩, .slice none 0 0] 36)).alloc (.cells #[.slice A L0.length c, .int .i64 0] 49)).alloc (.cells #[.pointer (some ⟨w.heap.size + 1, 0, none⟩), .int .i64 0, .int .i64 0] 51)).heap[w.heap.size + 1 + 1]? = some (.cells #[.pointer (some ⟨w.heap.size + 1, 0, none⟩), .int .i64 0, .int .i64 0] 51 (0, 0)) := by simpa using blk_new ((w.alloc (.cells #[.int .i64 0, .int .i64 0, .string ⟨#[]⟩, .slice none 0 0] 36)).alloc (.cells #[.slice A L0.length c, .int .i64 0] 49)) (.cells #[.pointer (some ⟨w.heap.size + 1, 0, none⟩), .int .i64 0, .int .i64 0] 51)
  have HB3 := Aside0.mk hb3
  have HI : Aside0 (IsS49 w (((w.alloc (.cells #[.int .i64 0, .int .i64 0, .string ⟨#[]⟩, .slice none 0 0] 36)).alloc (.cells #[.slice A L0.length c, .int .i64 0] 49)).alloc (.cells #[.pointer (some ⟨w.heap.size + 1, 0, none⟩), .int .i64 0, .int .i64 0] 51)) (w.heap.size + 1) L0 0) := ⟨⟨A, c, blk_alloc hb2 _, by omega, hr⟩⟩
  have HB := Aside0.mk (below_alloc (below_alloc (below_alloc (Below.refl w.heap.size w) (.cells #[.int .i64 0, .int .i64 0, .string ⟨#[]⟩, .slice none 0 0] 36)) (.cells #[.slice A L0.length c, .int .i64 0] 49)) (.cells #[.pointer (some ⟨w.heap.size + 1, 0, none⟩), .int .i64 0, .int .i64 0] 51))
  have HR3 := Aside0.mk (blk_alloc (blk_alloc hb1 (.cells #[.slice A L0.length c, .int .i64 0] 49)) (.cells #[.pointer (some ⟨w.heap.size + 1, 0, none⟩), .int .i64 0, .int .i64 0] 51))
  have hs3 : (((w.alloc (.cells #[.int .i64 0, .int .i64 0, .string ⟨#[]⟩, .slice none 0 0] 36)).alloc (.cells #[.slice A L0.length c, .int .i64 0] 49)).alloc (.cells #[.pointer (some ⟨w.heap.size + 1, 0, none⟩), .int .i64 0, .int .i64 0] 51)).heap.size = w.heap.size + 3 := by simp
  have HS3 := Aside0.mk hs3
  clear hb1 hb2 hb3 hu hr hs3
  go_enter Try.func16, Try.ntmps16
  go_wp2_with fail
  refine (interleavemade_loose_expr.calls 5 w (((w.alloc (.cells #[.int .i64 0, .int .i64 0, .string ⟨#[]⟩, .slice none 0 0] 36)).alloc (.cells #[.slice A L0.length c, .int .i64 0] 49)).alloc (.cells #[.pointer (some ⟨w.heap.size + 1, 0, none⟩), .int .i64 0, .int .i64 0] 51)) (w.heap.size + 1 + 1) (w.heap.size + 1) L0 0 0 0 (by omega) HI.out (by omega) HU.out hl HB3.out (by omega) HB.out).mono ?_
  rintro e W4 ⟨op, n, nm, v, l, a1, rfl, hV, hSm, _, _, hk, hB⟩
  obtain ⟨A4, c4, rfl⟩ := Kd.V_slice hV
  have HR4 := Aside0.mk (hk.blk HR3.out (by omega) (by simp))
  have HV4 := Aside0.mk hV
  have HSM := Aside0.mk hSm
  have HB4 := Aside0.mk hB
  clear hV hSm hk hB
  have rz0 : W4.cell? ⟨w.heap.size, 0, none⟩ = some (.int .i64 0) := (blk_cell HR4.out 0).trans rfl
  have rz1 : W4.cell? ⟨w.heap.size, 1, none⟩ = some (.int .i64 0) := (blk_cell HR4.out 1).trans rfl
  have rz2 : W4.cell? ⟨w.heap.size, 2, none⟩ = some (.string ⟨#[]⟩) := (blk_cell HR4.out 2).trans rfl
  have rz3 : W4.cell? ⟨w.heap.size, 3, none⟩ = some (.slice none 0 0) := (blk_cell HR4.out 3).trans rfl
  have kz0 : W4.frozen? ⟨w.heap.size, 0, none⟩ = false := blk_frozen HR4.out 0
  have kz1 : W4.frozen? ⟨w.heap.size, 1, none⟩ = false := blk_frozen HR4.out 1
  have kz2 : W4.frozen? ⟨w.heap.size, 2, none⟩ = false := blk_frozen HR4.out 2
  have kz3 : W4.frozen? ⟨w.heap.size, 3, none⟩ = false := blk_frozen HR4.out 3
  go_wp2_with fail
  have HF : Aside0 (((((W4.setCell ⟨w.heap.size, 0, none⟩ (.int .i64 op)).setCell ⟨w.heap.size, 1, none⟩ (.int .i64 n)).setCell ⟨w.heap.size, 2, none⟩ (.string nm)).setCell ⟨w.heap.size, 3, none⟩ (.slice A4 l.length c4)).heap[w.heap.size]? = some (.cells #[.int .i64 op, .int .i64 n, .string nm, .slice A4 l.length c4] 36 (0, 0))) := ⟨blk_put (blk_put (blk_put (blk_put HR4.out 0 _ rfl) 1 _ rfl) 2 _ rfl) 3 _ rfl⟩
  have hne : ∀ k, (((w.alloc (.cells #[.int .i64 0, .int .i64 0, .string ⟨#[]⟩, .slice none 0 0] 36)).alloc (.cells #[.slice A L0.length c, .int .i64 0] 49)).alloc (.cells #[.pointer (some ⟨w.heap.size + 1, 0, none⟩), .int .i64 0, .int .i64 0] 51)).heap.size ≤ k → k ≠ w.heap.size := fun k hk => by have := HS3.out; omega
  have HV9 := Aside0.mk (Kd.V_far (p := ⟨w.heap.size, 3, none⟩) (Kd.V_far (p := ⟨w.heap.size, 2, none⟩) (Kd.V_far (p := ⟨w.heap.size, 1, none⟩) (Kd.V_far (p := ⟨w.heap.size, 0, none⟩) HV4.out hne (.int .i64 op)) hne (.int .i64 n)) hne (.string nm)) hne (.slice A4 l.length c4))
  have HB9 := Aside0.mk (below_set (j := 3) (v := .slice A4 l.length c4) (below_set (j := 2) (v := .string nm) (below_set (j := 1) (v := .int .i64 n) (below_set (j := 0) (v := .int .i64 op) HB4.out (Nat.le_refl _)) (Nat.le_refl _)) (Nat.le_refl _)) (Nat.le_refl _))
  obtain ⟨W9, hW9⟩ : ∃ W9, W9 = (((W4.setCell ⟨w.heap.size, 0, none⟩ (.int .i64 op)).setCell ⟨w.heap.size, 1, none⟩ (.int .i64 n)).setCell ⟨w.heap.size, 2, none⟩ (.string nm)).setCell ⟨w.heap.size, 3, none⟩ (.slice A4 l.length c4) := ⟨_, rfl⟩
  rw [← hW9] at HF HV9 HB9 ⊢
  clear hW9 hne
  have h90 : W9.cell? ⟨w.heap.size, 0, none⟩ = some (.int .i64 op) := (blk_cell HF.out 0).trans rfl
  have h91 : W9.cell? ⟨w.heap.size, 1, none⟩ = some (.int .i64 n) := (blk_cell HF.out 1).trans rfl
  have h92 : W9.cell? ⟨w.heap.size, 2, none⟩ = some (.string nm) := (blk_cell HF.out 2).trans rfl
  have h93 : W9.cell? ⟨w.heap.size, 3, none⟩ = some (.slice A4 l.length c4) := (blk_cell HF.out 3).trans rfl
  (try simp only [Exit.inBlock, Exit.then])
  refine bodyPost_ret (by simp [results, Try.results16, go_sem, h90, h91, h92, h93]; try rfl) rfl ?_
  exact ⟨_, _, _, _, _, rfl, Kd.V_mono HV9.out (fun k hk => by have := HS3.out; omega), HSM.out, HB9.out⟩

/-! ### eval_Unary: function 12 -/
def eval_Unary.f (a0 : Int) (a1 : Int) : Option (Int × Bool) := if a0 = 4 then (some (wrap64 (-a1), true)) else (if a0 = 5 then ((eval_truth.f (a1 == 0)).bind fun t122 => (some (t122, true))) else (some (0, false)))
set_option maxHeartbeats 8000000 in
set_option maxRecDepth 100000 in
theorem eval_Unary.calls (a0 : Int) (a1 : Int) (r1 : Int) (r2 : Bool) (w : World) (h : eval_Unary.f a0 a1 = some (r1, r2)) :
    Calls Try.prog 12 #[.int .i64 a0, .int .i64 a1] w fun e w' => e = .returned (.tuple #[.int .i64 r1, .bool r2]) ∧ Drawn0 w w' := by
  have H : (if a0 = 4 then (some (wrap64 (-a1), true)) else (if a0 = 5 then ((eval_truth.f (a1 == 0)).bind fun t122 => (some (t122, true))) else (some (0, false)))) = some (r1, r2) := h
  clear h
  by_cases c3 : a0 = 4
  · rw [if_pos c3] at H
    have c3b0 : (a0 == 4) = true := beq_iff_eq.mpr c3
    have c3b1 : (a0 != 4) = false := bne_eq_false_iff_eq.mpr c3
    clear c3
    simp only [Option.some.injEq, Prod.mk.injEq] at H
    obtain ⟨rfl, rfl⟩ := H
    go_enter Try.func12, Try.ntmps12
    go_wp2
    go_ret2
    exact ⟨by first | rfl | (simp; done) | (simp [*]; done), by repeat (first | exact Drawn0.refl _ | apply Drawn0.step)⟩
  · rw [if_neg c3] at H
    have c3b0 : (a0 == 4) = false := beq_eq_false_iff_ne.mpr c3
    have c3b1 : (a0 != 4) = true := bne_iff_ne.mpr c3
    by_cases c4 : a0 = 5
    · rw [if_pos c4] at H
      have c4b0 : (a0 == 5) = true := beq_iff_eq.mpr c4
      have c4b1 : (a0 != 5) = false := bne_eq_false_iff_eq.mpr c4
      clear c4
      replace H := Option.bind_eq_some_iff.mp H
      obtain ⟨t122, A50, H⟩ := H
      replace H : (some (t122, true)) = some (r1, r2) := H
      have A5 := Aside0.mk A50
      clear A50
      simp only [Option.some.injEq, Prod.mk.injEq] at H
      obtain ⟨rfl, rfl⟩ := H
      go_enter Try.func12, Try.ntmps12
      go_wp2_with (first | ((with_reducible refine gate_callee (f := 22) rfl ?_); refine goesL_ (some 15) rfl rfl Try.func22 (by kernel_rfl) rfl #[.bool (a1 == 0)] rfl (by (try simp only [List.map_toArray, List.map_cons, List.map_nil]); first | done | rfl | (simp only [List.length_drop, List.length_take]; rfl)) ?_; (with_reducible refine (eval_truth.calls (a1 == 0) t122 _ A5.out).mono ?_); rintro e w' ⟨rfl, ⟨nd, rfl⟩⟩; refine ⟨_, rfl, ?_⟩))
      go_ret2
      exact ⟨by first | rfl | (simp; done) | (simp [*]; done), by repeat (first | exact Drawn0.refl _ | apply Drawn0.step)⟩
    · rw [if_neg c4] at H
      have c4b0 : (a0 == 5) = false := beq_eq_false_iff_ne.mpr c4
      have c4b1 : (a0 != 5) = true := bne_iff_ne.mpr c4
      simp only [Option.some.injEq, Prod.mk.injEq] at H
      obtain ⟨rfl, rfl⟩ := H
      go_enter Try.func12, Try.ntmps12
      go_wp2
      go_ret2
      exact ⟨by first | rfl | (simp; done) | (simp [*]; done), by repeat (first | exact Drawn0.refl _ | apply Drawn0.step)⟩

/-! ### eval_operands: function 26 -/
mutual
def eval_operands.j0 : Nat → Int → Bool → Option (Int)
  | 0, _, _ => none
  | k + 1, x0, x3 => if x3 = true then (some 0) else (if x0 = 4 then (eval_operands.j1 k x0 true) else (eval_operands.j1 k x0 (x0 == 5)))
def eval_operands.j1 : Nat → Int → Bool → Option (Int)
  | 0, _, _ => none
  | k + 1, x0, x10 => if x10 = true then (some 1) else (if x0 ≥ 6 then (if x0 ≤ 18 then (some 2) else (some (-1))) else (some (-1)))
end
def eval_operands.f (k : Nat) (a0 : Int) : Option (Int) := if a0 = 1 then (eval_operands.j0 k a0 true) else (eval_operands.j0 k a0 (a0 == 2))
theorem eval_operands.mono_l : ∀ k, (∀ y0 y1, LeO (eval_operands.j0 k y0 y1) (eval_operands.j0 (k + 1) y0 y1)) ∧ (∀ y0 y1, LeO (eval_operands.j1 k y0 y1) (eval_operands.j1 (k + 1) y0 y1))
  | 0 => ⟨fun _ _ r h => by simp [eval_operands.j0] at h, fun _ _ r h => by simp [eval_operands.j1] at h⟩
  | k + 1 => by
    obtain ⟨ih0, ih1⟩ := eval_operands.mono_l k
    refine ⟨?_, ?_⟩
    · intro y0 y1
      unfold eval_operands.j0
      repeat' first
      | (with_reducible exact ih0 _ _)
      | (with_reducible exact ih1 _ _)
      | (with_reducible exact LeO.refl _)
      | (with_reducible exact LeO.none _)
      | (with_reducible refine LeO.ite ?_ ?_)
      | (with_reducible refine LeO.bind ?_ (fun _ => ?_))
      | exact ih0 _ _
      | exact ih1 _ _
      | exact LeO.none _
      | refine LeO.ite ?_ ?_
      | refine LeO.bind ?_ (fun _ => ?_)
    · intro y0 y1
      unfold eval_operands.j1
      repeat' first
      | (with_reducible exact ih0 _ _)
      | (with_reducible exact ih1 _ _)
      | (with_reducible exact LeO.refl _)
      | (with_reducible exact LeO.none _)
      | (with_reducible refine LeO.ite ?_ ?_)
      | (with_reducible refine LeO.bind ?_ (fun _ => ?_))
      | exact ih0 _ _
      | exact ih1 _ _
      | exact LeO.none _
      | refine LeO.ite ?_ ?_
      | refine LeO.bind ?_ (fun _ => ?_)
theorem eval_operands.mono : ∀ a0 k, LeO (eval_operands.f k a0) (eval_operands.f (k + 1) a0) := by
  intro a0 k
  obtain ⟨ih0, ih1⟩ := eval_operands.mono_l k
  unfold eval_operands.f
  repeat' first
      | (with_reducible exact ih0 _ _)
      | (with_reducible exact ih1 _ _)
      | (with_reducible exact LeO.refl _)
      | (with_reducible exact LeO.none _)
      | (with_reducible refine LeO.ite ?_ ?_)
      | (with_reducible refine LeO.bind ?_ (fun _ => ?_))
      | exact ih0 _ _
      | exact ih1 _ _
      | exact LeO.none _
      | refine LeO.ite ?_ ?_
      | refine LeO.bind ?_ (fun _ => ?_)
set_option maxHeartbeats 8000000 in
set_option maxRecDepth 100000 in
theorem eval_operands.calls (k : Nat) (a0 : Int) (r : Int) (w : World) (h : eval_operands.f k a0 = some r) :
    Calls Try.prog 26 #[.int .i64 a0] w fun e w' => e = .returned (.int .i64 r) ∧ Drawn0 w w' := by
  have H : (if a0 = 1 then (eval_operands.j0 k a0 true) else (eval_operands.j0 k a0 (a0 == 2))) = some r := h
  clear h
  have HC2 := Aside0.mk H
  clear H
  go_enter Try.func26, Try.ntmps26
  go_upto_region 1 with (fail)
  go_cut [3] (fun v3 wc => ∃ (kq : Nat) (x3_1 : Bool), v3 = .bool x3_1 ∧ Aside0 (eval_operands.j0 kq a0 x3_1 = some r) ∧ Aside0 (kq ≤ k) ∧ Drawn0 w wc)
  case first =>
    have H := HC2.out
    clear HC2
    by_cases c3 : a0 = 1
    · rw [if_pos c3] at H
      have c3b0 : (a0 == 1) = true := beq_iff_eq.mpr c3
      have c3b1 : (a0 != 1) = false := bne_eq_false_iff_eq.mpr c3
      clear c3
      (first | rw [c3b0] | (simp only [i64_w, i32_w]; rw [c3b0]) | skip)
      have H' := Aside0.mk H
      clear H
      go_wp2
      go_meet
      case rel => exact ⟨_, (true), (by first | rfl | (simp; done) | (simp [*]; done)), H', ⟨by first | omega | exact Nat.le_refl _⟩, by repeat (first | exact Drawn0.refl _ | apply Drawn0.step)⟩
    · rw [if_neg c3] at H
      have c3b0 : (a0 == 1) = false := beq_eq_false_iff_ne.mpr c3
      have c3b1 : (a0 != 1) = true := bne_iff_ne.mpr c3
      (first | rw [c3b0] | (simp only [i64_w, i32_w]; rw [c3b0]) | skip)
      have H' := Aside0.mk H
      clear H
      go_wp2
      go_meet
      case rel => exact ⟨_, ((a0 == 2)), (by first | rfl | (simp; done) | (simp [*]; done)), H', ⟨by first | omega | exact Nat.le_refl _⟩, by repeat (first | exact Drawn0.refl _ | apply Drawn0.step)⟩
  case rest =>
    clear HC2
    try clear c2
    try clear p2
    try clear c3
    try clear c3b0
    try clear c3b1
    obtain ⟨kq, x3_1, rfl, HA, HJ1, ⟨mc1, rfl⟩⟩ := hcut
    cases kq with
    | zero => exact absurd HA.out (by simp [eval_operands.j0])
    | succ kj1 =>
      have H := HA.out
      clear HA
      simp only [eval_operands.j0] at H
      by_cases c4 : x3_1 = true
      · subst c4
        have H1 : (some 0) = some r := by rw [if_pos rfl] at H; exact H
        clear H
        have H := H1
        clear H1
        obtain rfl := Option.some.inj H
        go_wp2
        go_ret
        exact ⟨by first | rfl | (simp; done) | (simp [*]; done), by repeat (first | exact Drawn0.refl _ | apply Drawn0.step)⟩
      · replace c4 := Bool.eq_false_iff.mpr c4
        subst c4
        have H1 : (if a0 = 4 then (eval_operands.j1 kj1 a0 true) else (eval_operands.j1 kj1 a0 (a0 == 5))) = some r := by rw [if_neg (show ¬ (false = true) by decide)] at H; exact H
        clear H
        have H := H1
        clear H1
        have HC5 := Aside0.mk H
        clear H
        go_upto_region 3 with (fail)
        go_cut [10] (fun v10 wc => ∃ (kq : Nat) (x10_4 : Bool), v10 = .bool x10_4 ∧ Aside0 (eval_operands.j1 kq a0 x10_4 = some r) ∧ Aside0 (kq ≤ kj1) ∧ Drawn0 w wc)
        case first =>
          have H := HC5.out
          clear HC5
          by_cases c6 : a0 = 4
          · rw [if_pos c6] at H
            have c6b0 : (a0 == 4) = true := beq_iff_eq.mpr c6
            have c6b1 : (a0 != 4) = false := bne_eq_false_iff_eq.mpr c6
            clear c6
            (first | rw [c6b0] | (simp only [i64_w, i32_w]; rw [c6b0]) | skip)
            have H' := Aside0.mk H
            clear H
            go_wp2
            go_meet
            case rel => exact ⟨_, (true), (by first | rfl | (simp; done) | (simp [*]; done)), H', ⟨by have := HJ1.out; first | omega | exact Nat.le_refl _⟩, by repeat (first | exact Drawn0.refl _ | apply Drawn0.step)⟩
          · rw [if_neg c6] at H
            have c6b0 : (a0 == 4) = false := beq_eq_false_iff_ne.mpr c6
            have c6b1 : (a0 != 4) = true := bne_iff_ne.mpr c6
            (first | rw [c6b0] | (simp only [i64_w, i32_w]; rw [c6b0]) | skip)
            have H' := Aside0.mk H
            clear H
            go_wp2
            go_meet
            case rel => exact ⟨_, ((a0 == 5)), (by first | rfl | (simp; done) | (simp [*]; done)), H', ⟨by have := HJ1.out; first | omega | exact Nat.le_refl _⟩, by repeat (first | exact Drawn0.refl _ | apply Drawn0.step)⟩
        case rest =>
          clear HC5
          try clear c1
          try clear c2
          try clear p2
          try clear c3
          try clear c3b0
          try clear c3b1
          try clear c4
          try clear c6
          try clear c6b0
          try clear c6b1
          try clear p2
          obtain ⟨kq, x10_4, rfl, HA, HJ4, ⟨mc4, rfl⟩⟩ := hcut
          cases kq with
          | zero => exact absurd HA.out (by simp [eval_operands.j1])
          | succ kj4 =>
            have H := HA.out
            clear HA
            simp only [eval_operands.j1] at H
            by_cases c7 : x10_4 = true
            · subst c7
              have H1 : (some 1) = some r := by rw [if_pos rfl] at H; exact H
              clear H
              have H := H1
              clear H1
              obtain rfl := Option.some.inj H
              go_wp2
              go_ret
              exact ⟨by first | rfl | (simp; done) | (simp [*]; done), by repeat (first | exact Drawn0.refl _ | apply Drawn0.step)⟩
            · replace c7 := Bool.eq_false_iff.mpr c7
              subst c7
              have H1 : (if a0 ≥ 6 then (if a0 ≤ 18 then (some 2) else (some (-1))) else (some (-1))) = some r := by rw [if_neg (show ¬ (false = true) by decide)] at H; exact H
              clear H
              have H := H1
              clear H1
              by_cases c8 : a0 ≥ 6
              · rw [if_pos c8] at H
                have c8b0 : decide (6 ≤ a0) = true := decide_eq_true c8
                clear c8
                by_cases c9 : a0 ≤ 18
                · rw [if_pos c9] at H
                  have c9b0 : decide (a0 ≤ 18) = true := decide_eq_true c9
                  clear c9
                  obtain rfl := Option.some.inj H
                  go_wp2
                  go_ret
                  exact ⟨by first | rfl | (simp; done) | (simp [*]; done), by repeat (first | exact Drawn0.refl _ | apply Drawn0.step)⟩
                · rw [if_neg c9] at H
                  have c9b0 : decide (a0 ≤ 18) = false := decide_eq_false c9
                  clear c9
                  obtain rfl := Option.some.inj H
                  go_wp2
                  go_ret
                  exact ⟨by first | rfl | (simp; done) | (simp [*]; done), by repeat (first | exact Drawn0.refl _ | apply Drawn0.step)⟩
              · rw [if_neg c8] at H
                have c8b0 : decide (6 ≤ a0) = false := decide_eq_false c8
                clear c8
                obtain rfl := Option.some.inj H
                go_wp2
                go_ret
                exact ⟨by first | rfl | (simp; done) | (simp [*]; done), by repeat (first | exact Drawn0.refl _ | apply Drawn0.step)⟩

/-! ### slices_Index_string_string: function 27 -/
def slices_Index_string_string.l0 : Nat → List ByteArray → ByteArray → Int → Int → Option (Int)
  | 0, _, _, _, _ => none
  | k + 1, x0, x1, x7, x8 => if x8 < x7 then (if 0 ≤ x8 then (if x8 < (x0.length : Int) then (if x1.toList = (rdOf ByteArray.empty x0 x8).toList then (some x8) else (slices_Index_string_string.l0 k x0 x1 x7 (wrap64 (x8 + 1)))) else (none)) else (none)) else (some (-1))
def slices_Index_string_string.f (k : Nat) (l0 : List ByteArray) (a1 : ByteArray) : Option (Int) := slices_Index_string_string.l0 k l0 a1 (l0.length : Int) 0
theorem slices_Index_string_string.mono_l : ∀ k, (∀ y0 y1 y2 y3, LeO (slices_Index_string_string.l0 k y0 y1 y2 y3) (slices_Index_string_string.l0 (k + 1) y0 y1 y2 y3))
  | 0 => fun _ _ _ _ r h => by simp [slices_Index_string_string.l0] at h
  | k + 1 => by
    have ih0 := slices_Index_string_string.mono_l k
    · intro y0 y1 y2 y3
      unfold slices_Index_string_string.l0
      repeat' first
      | (with_reducible exact ih0 _ _ _ _)
      | (with_reducible exact LeO.refl _)
      | (with_reducible exact LeO.none _)
      | (with_reducible refine LeO.ite ?_ ?_)
      | (with_reducible refine LeO.bind ?_ (fun _ => ?_))
      | exact ih0 _ _ _ _
      | exact LeO.none _
      | refine LeO.ite ?_ ?_
      | refine LeO.bind ?_ (fun _ => ?_)
theorem slices_Index_string_string.mono : ∀ a0 a1 k, LeO (slices_Index_string_string.f k a0 a1) (slices_Index_string_string.f (k + 1) a0 a1) := by
  intro a0 a1 k
  have ih0 := slices_Index_string_string.mono_l k
  unfold slices_Index_string_string.f
  repeat' first
      | (with_reducible exact ih0 _ _ _ _)
      | (with_reducible exact LeO.refl _)
      | (with_reducible exact LeO.none _)
      | (with_reducible refine LeO.ite ?_ ?_)
      | (with_reducible refine LeO.bind ?_ (fun _ => ?_))
      | exact ih0 _ _ _ _
      | exact LeO.none _
      | refine LeO.ite ?_ ?_
      | refine LeO.bind ?_ (fun _ => ?_)
set_option maxHeartbeats 8000000 in
set_option maxRecDepth 100000 in
theorem slices_Index_string_string.calls (k : Nat) (A0 : Option Addr) (c0 : Nat) (l0 : List ByteArray) (a1 : ByteArray) (r : Int) (w : World) (hr0 : Kd.C Kd.string w A0 l0.length l0) (hc0 : l0.length ≤ c0) (h : slices_Index_string_string.f k l0 a1 = some r) :
    Calls Try.prog 27 #[.slice A0 l0.length c0, .string a1] w fun e w' => e = .returned (.int .i64 r) ∧ Drawn0 w w' := by
  have HR0 := Aside0.mk hr0
  have HC0 := Aside0.mk hc0
  clear hr0 hc0
  have H : (slices_Index_string_string.l0 k l0 a1 (l0.length : Int) 0) = some r := h
  clear h
  have H' := Aside0.mk H
  clear H
  go_enter Try.func27, Try.ntmps27
  go_wp2
  go_loopg [8] k (fun kq v8 w' => ∃ (x8_1 : Int), v8 = .int .i64 x8_1 ∧ Aside0 (slices_Index_string_string.l0 kq l0 a1 (l0.length : Int) x8_1 = some r) ∧ Aside0 (kq ≤ k) ∧ Drawn0 w w')
  case atStart => exact ⟨(0), (by first | rfl | (simp; done) | (simp [*]; done)), H', ⟨Nat.le_refl _⟩, by repeat (first | exact Drawn0.refl _ | apply Drawn0.step)⟩
  case round =>
    clear H'
    try clear c2
    try clear p2
    obtain ⟨x8_1, rfl, HA, HK1, ⟨m1, rfl⟩⟩ := hrel
    cases gk with
    | zero => exact absurd HA.out (by simp [slices_Index_string_string.l0])
    | succ k1 =>
      have H := HA.out
      clear HA
      simp only [slices_Index_string_string.l0] at H
      by_cases c3 : x8_1 < (l0.length : Int)
      · rw [if_pos c3] at H
        have c3b0 : decide (x8_1 < (l0.length : Int)) = true := decide_eq_true c3
        clear c3
        by_cases c4 : 0 ≤ x8_1
        · rw [if_pos c4] at H
          have c4b0 : decide (0 ≤ x8_1) = true := decide_eq_true c4
          clear c4
          by_cases c5 : x8_1 < (l0.length : Int)
          · rw [if_pos c5] at H
            have c5b0 : decide (x8_1 < (l0.length : Int)) = true := decide_eq_true c5
            clear c5
            by_cases c6 : a1.toList = (rdOf ByteArray.empty l0 x8_1).toList
            · rw [if_pos c6] at H
              have c6b0 : (a1.toList == (rdOf ByteArray.empty l0 x8_1).toList) = true := beq_iff_eq.mpr c6
              have c6b1 : (a1.toList != (rdOf ByteArray.empty l0 x8_1).toList) = false := bne_eq_false_iff_eq.mpr c6
              clear c6
              obtain rfl := Option.some.inj H
              have p123 : 0 ≤ (x8_1 : Int) := of_decide_eq_true (by first | (with_reducible assumption) | assumption)
              have q123 : x8_1 < (l0.length : Int) := of_decide_eq_true (by first | (with_reducible assumption) | assumption)
              obtain ⟨ad123, e123, hx123_0⟩ := Kd.at_string HR0.out x8_1 p123 q123
              cases e123
              replace p123 := eq_true p123
              replace q123 := eq_true q123
              go_wp2
              go_ret
              exact ⟨by first | rfl | (simp; done) | (simp [*]; done), by repeat (first | exact Drawn0.refl _ | apply Drawn0.step)⟩
            · rw [if_neg c6] at H
              have c6b0 : (a1.toList == (rdOf ByteArray.empty l0 x8_1).toList) = false := beq_eq_false_iff_ne.mpr c6
              have c6b1 : (a1.toList != (rdOf ByteArray.empty l0 x8_1).toList) = true := bne_iff_ne.mpr c6
              have H' := Aside0.mk H
              clear H
              have p123 : 0 ≤ (x8_1 : Int) := of_decide_eq_true (by first | (with_reducible assumption) | assumption)
              have q123 : x8_1 < (l0.length : Int) := of_decide_eq_true (by first | (with_reducible assumption) | assumption)
              obtain ⟨ad123, e123, hx123_0⟩ := Kd.at_string HR0.out x8_1 p123 q123
              cases e123
              replace p123 := eq_true p123
              replace q123 := eq_true q123
              go_wp2
              go_roundg k1
              case measure => have := HK1.out; omega
              case rel => exact ⟨(wrap64 (x8_1 + 1)), (by first | rfl | (simp; done) | (simp [*]; done)), H', ⟨by have := HK1.out; omega⟩, by repeat (first | exact Drawn0.refl _ | apply Drawn0.step)⟩
          · rw [if_neg c5] at H
            exact absurd H (by simp)
        · rw [if_neg c4] at H
          exact absurd H (by simp)
      · rw [if_neg c3] at H
        have c3b0 : decide (x8_1 < (l0.length : Int)) = false := decide_eq_false c3
        clear c3
        obtain rfl := Option.some.inj H
        go_wp2
        go_ret
        exact ⟨by first | rfl | (simp; done) | (simp [*]; done), by repeat (first | exact Drawn0.refl _ | apply Drawn0.step)⟩

/-! ### eval_Expr: function 17 -/
theorem eval_Expr.ops2 {k : Nat} {a o : Int} (h : eval_operands.f k a = some o) : o ≤ 2 := by
  have j1 : ∀ k x b o, eval_operands.j1 k x b = some o → o ≤ 2 := by
    intro k x b o h
    cases k with
    | zero => simp [eval_operands.j1] at h
    | succ k =>
      rw [eval_operands.j1] at h
      split at h
      · have := Option.some.inj h; omega
      · split at h
        · split at h
          · have := Option.some.inj h; omega
          · have := Option.some.inj h; omega
        · have := Option.some.inj h; omega
  have j0 : ∀ k x b o, eval_operands.j0 k x b = some o → o ≤ 2 := by
    intro k x b o h
    cases k with
    | zero => simp [eval_operands.j0] at h
    | succ k =>
      rw [eval_operands.j0] at h
      split at h
      · have := Option.some.inj h; omega
      · split at h
        · exact j1 _ _ _ _ h
        · exact j1 _ _ _ _ h
  unfold eval_operands.f at h
  split at h
  · exact j0 _ _ _ _ h
  · exact j0 _ _ _ _ h
/-- What Expr gives, its operands' values known. -/
def eval_Expr.tl (k : Nat) (op n : Int) (nm : ByteArray) (names : List ByteArray) (vals : List Int) (v0 v1 : Int) : Option (Int × Bool) :=
  if op = 1 then some (n, true)
  else if op = 2 then (slices_Index_string_string.f k names nm).bind fun i => if i < 0 ∨ (vals.length : Int) ≤ i then some (0, false) else some (rd vals i, true)
  else if op = 4 ∨ op = 5 then eval_Unary.f op v0 else eval_Binary.f k op v0 v1
def eval_Expr.f : Nat → Int → Int → ByteArray → List S36 → List ByteArray → List Int → Option (Int × Bool)
  | 0, _, _, _, _, _, _ => none
  | k + 1, op, n, nm, l, names, vals =>
    (eval_operands.f k op).bind fun o =>
      if (l.length : Int) ≠ o then some (0, false)
      else (if 0 < l.length then eval_Expr.f k (rd_T36 l 0).f0 (rd_T36 l 0).f1 (rd_T36 l 0).f2 (rd_T36 l 0).f3 names vals else some (0, true)).bind fun p0 =>
        (if 1 < l.length then eval_Expr.f k (rd_T36 l 1).f0 (rd_T36 l 1).f1 (rd_T36 l 1).f2 (rd_T36 l 1).f3 names vals else some (0, true)).bind fun p1 =>
          if p0.2 = false ∨ p1.2 = false then some (0, false) else eval_Expr.tl k op n nm names vals p0.1 p1.1
set_option maxHeartbeats 8000000 in
set_option maxRecDepth 100000 in
theorem eval_Expr.calls (k : Nat) : ∀ (op n : Int) (nm : ByteArray) (A : Option Addr) (c : Nat) (l : List S36) (A1 : Option Addr) (c1 : Nat) (names : List ByteArray) (A2 : Option Addr) (c2 : Nat) (vals : List Int) (r1 : Int) (r2 : Bool) (w : World) (hr : Kd.C k36 w A l.length l) (hc : l.length ≤ c) (hr1 : Kd.C Kd.string w A1 names.length names) (hc1 : names.length ≤ c1) (hr2 : Kd.C (Kd.int .i64) w A2 vals.length vals) (hc2 : vals.length ≤ c2) (h : eval_Expr.f k op n nm l names vals = some (r1, r2)),
    Calls Try.prog 17 #[.agg #[.int .i64 op, .int .i64 n, .string nm, .slice A l.length c], .slice A1 names.length c1, .slice A2 vals.length c2] w fun e w' => e = .returned (.tuple #[.int .i64 r1, .bool r2]) ∧ Below w.heap.size w w' := by
  induction k with
  | zero => intro op n nm A c l A1 c1 names A2 c2 vals r1 r2 w _ _ _ _ _ _ h; simp [eval_Expr.f] at h
  | succ k ih =>
    intro op n nm A c l A1 c1 names A2 c2 vals r1 r2 w hr hc hr1 hc1 hr2 hc2 h
    rw [eval_Expr.f] at h
    obtain ⟨o, ho, h⟩ := Option.bind_eq_some_iff.1 h
    have ho2 := eval_Expr.ops2 ho
    have HR := Aside0.mk (And.intro hr (And.intro hr1 hr2))
    have IH := Aside0.mk ih
    have hu36 := Try.underlying36
    clear ih hr hr1 hr2
    have HBE : Aside0 ((w.alloc (.cells #[.int .i64 op, .int .i64 n, .string nm, .slice A l.length c] 36)).heap[w.heap.size]? = some (.cells #[.int .i64 op, .int .i64 n, .string nm, .slice A l.length c] 36 (0, 0))) := ⟨blk_new _ _⟩
    have HB1 : Aside0 (Below w.heap.size w (w.alloc (.cells #[.int .i64 op, .int .i64 n, .string nm, .slice A l.length c] 36))) := ⟨below_alloc (Below.refl _ _) _⟩
    have z0 : (w.alloc (.cells #[.int .i64 op, .int .i64 n, .string nm, .slice A l.length c] 36)).cell? ⟨w.heap.size, 0, none⟩ = some (.int .i64 op) := (blk_cell HBE.out 0).trans rfl
    have z3 : (w.alloc (.cells #[.int .i64 op, .int .i64 n, .string nm, .slice A l.length c] 36)).cell? ⟨w.heap.size, 3, none⟩ = some (.slice A l.length c) := (blk_cell HBE.out 3).trans rfl
    have HO := Aside0.mk ho
    go_enter Try.func17, Try.ntmps17
    by_cases hlo : (l.length : Int) = o
    · subst hlo
      rw [if_neg (fun hn => hn rfl)] at h
      obtain ⟨p0, hp0, h⟩ := Option.bind_eq_some_iff.1 h
      obtain ⟨p1, hp1, h⟩ := Option.bind_eq_some_iff.1 h
      have HP0 := Aside0.mk hp0
      have HP1 := Aside0.mk hp1
      have HH := Aside0.mk h
      have hl2 : l.length ≤ 2 := by omega
      clear hp0 hp1 h ho2
      go_wp2_with fail
      refine start_ (n := 7) (S := fun w' => w'.cell? ⟨w.heap.size, 0, none⟩ = some (.int .i64 op) ∧ w'.cell? ⟨w.heap.size, 3, none⟩ = some (.slice A l.length c) ∧ Aside0 (Below w.heap.size w w') ∧ Aside0 (w'.heap[w.heap.size]? = some (.cells #[.int .i64 op, .int .i64 n, .string nm, .slice A l.length c] 36 (0, 0)))) (ds := []) #[false, false, false, false, false, false, false] (by kernel_rfl) rfl rfl ⟨z0, z3, Aside0.mk (below_drew HB1.out), Aside0.mk (blk_drew HBE.out)⟩ (fun hHeld => ?_)
      refine pure_ (i := 0) (N := some 14) (v := ?_) (a' := ?_) #[true, false, false, false, false, false, false] rfl rfl (by kernel_rfl) (fun _ _ _ h => h) (Or.inl ⟨by rfl, ?_⟩) ?_ ?_
      rotate_left
      · intro w'
        go_simp
        with_reducible rfl
      rotate_left
      · simp only [Act.put, List.setIfInBounds_toArray, List.set_cons_zero, List.set_cons_succ, i64_w, i32_w]
        rfl
      refine pure_ (i := 3) (N := some 17) (v := ?_) (a' := ?_) #[true, false, false, true, false, false, false] rfl rfl (by kernel_rfl) (fun _ _ _ h => h) (Or.inl ⟨by rfl, ?_⟩) ?_ ?_
      rotate_left
      · intro w'
        go_simp
        with_reducible rfl
      rotate_left
      · simp only [Act.put, List.setIfInBounds_toArray, List.set_cons_zero, List.set_cons_succ, i64_w, i32_w]
        rfl
      refine take_ (i := 1) (N := some 15) (v := ?_) (a' := ?_) #[true, true, false, true, false, false, false] rfl rfl (by kernel_rfl) (fun _ _ _ h => h) (Or.inl ⟨by rfl, ?_⟩) hHeld ?_ ?_
      rotate_left
      · rintro w' ⟨s0, s1, s2, s3⟩
        go_simp
        with_reducible rfl
      rotate_left
      · simp only [Act.put, List.setIfInBounds_toArray, List.set_cons_zero, List.set_cons_succ, i64_w, i32_w]
        rfl
      refine pure_ (i := 2) (N := some 16) (v := ?_) (a' := ?_) #[true, true, true, true, false, false, false] rfl rfl (by kernel_rfl) (fun _ _ _ h => h) (Or.inl ⟨by rfl, ?_⟩) ?_ ?_
      rotate_left
      · intro w'
        go_simp
        with_reducible rfl
      rotate_left
      · simp only [Act.put, List.setIfInBounds_toArray, List.set_cons_zero, List.set_cons_succ, i64_w, i32_w]
        rfl
      refine take_ (i := 4) (N := some 18) (v := ?_) (a' := ?_) #[true, true, true, true, true, false, false] rfl rfl (by kernel_rfl) (fun _ _ _ h => h) (Or.inl ⟨by rfl, ?_⟩) hHeld ?_ ?_
      rotate_left
      · rintro w' ⟨s0, s1, s2, s3⟩
        go_simp
        with_reducible rfl
      rotate_left
      · simp only [Act.put, List.setIfInBounds_toArray, List.set_cons_zero, List.set_cons_succ, i64_w, i32_w]
        rfl
      refine one_ (i := 5) (N := some 19) #[true, true, true, true, true, true, false] rfl rfl (by kernel_rfl) (by decide) (fun K hK => ?_)
      obtain ⟨t0, t1, t2, t3⟩ := hHeld
      refine goes_ Try.func26 (by kernel_rfl) rfl #[.int .i64 op] (by rfl) rfl rfl (by simp only [List.map_toArray, List.map_cons, List.map_nil]; rfl) ?_
      with_reducible refine (eval_operands.calls k op _ _ HO.out).mono ?_
      rintro e w3 ⟨rfl, ⟨⟨kq, rfl⟩⟩⟩
      refine ⟨_, rfl, ?_⟩
      refine hK.out _ _ ⟨t0, t1, ⟨pw_below_drewN t2.out kq⟩, ⟨blk_drewN t3.out kq⟩⟩ (fun hHeld => ?_)
      clear hK K
      refine norm_ (a' := ?_) ?_ ?_
      rotate_left
      · show Act.put _ (some 19) _ = _
        simp only [Act.put, List.setIfInBounds_toArray, List.set_cons_zero, List.set_cons_succ, i64_w, i32_w]
        rfl
      refine pure_ (i := 6) (N := some 20) (v := ?_) (a' := ?_) #[true, true, true, true, true, true, true] rfl rfl (by kernel_rfl) (fun _ _ _ h => h) (Or.inl ⟨by rfl, ?_⟩) ?_ ?_
      rotate_left
      · intro w'
        go_simp
        with_reducible rfl
      rotate_left
      · simp only [Act.put, List.setIfInBounds_toArray, List.set_cons_zero, List.set_cons_succ, i64_w, i32_w]
        rfl
      refine done_ (by kernel_rfl) ?_
      obtain ⟨_, _, HB2, HBE2⟩ := hHeld
      obtain ⟨W3, hW3⟩ : ∃ W3, W3 = ((w.alloc (.cells #[.int .i64 op, .int .i64 n, .string nm, .slice A l.length c] 36)).drew.drewN kq) := ⟨_, rfl⟩
      rw [← hW3] at HB2 HBE2 ⊢
      clear hW3 HBE HB1 z0 z3 HO
      have HBV : Aside0 ((W3.alloc (.cells #[.int .i64 0, .int .i64 0] 54)).heap[W3.heap.size]? = some (.cells #[.int .i64 0, .int .i64 0] 54 (0, 0))) := ⟨blk_new _ _⟩
      have HBE3 := Aside0.mk (blk_alloc HBE2.out (.cells #[.int .i64 0, .int .i64 0] 54))
      have HB3 := Aside0.mk (below_alloc HB2.out (.cells #[.int .i64 0, .int .i64 0] 54))
      have z3 : (W3.alloc (.cells #[.int .i64 0, .int .i64 0] 54)).cell? ⟨w.heap.size, 3, none⟩ = some (.slice A l.length c) := (blk_cell HBE3.out 3).trans rfl
      have hbv := Aside0.mk (blk_lt HBE2.out)
      have hsz := Aside0.mk HB2.out.size
      go_wp2_with fail
      obtain ⟨bv, hbvv⟩ : ∃ bv, bv = W3.heap.size := ⟨_, rfl⟩
      obtain ⟨W4, hW4⟩ : ∃ W4, W4 = W3.alloc (.cells #[.int .i64 0, .int .i64 0] 54) := ⟨_, rfl⟩
      rw [← hbvv] at HBV hbv hsz ⊢
      rw [← hW4] at HBV HBE3 HB3 ⊢
      clear hW4 hbvv z3 HB2 HBE2
      go_loopw [24] (fun v24 wr => ∃ (j : Nat) (a0 a1 : Int), v24 = .int .i64 (j : Int) ∧ j ≤ l.length ∧ Aside0 (wr.heap[bv]? = some (.cells #[.int .i64 a0, .int .i64 a1] 54 (0, 0))) ∧ Aside0 (wr.heap[w.heap.size]? = some (.cells #[.int .i64 op, .int .i64 n, .string nm, .slice A l.length c] 36 (0, 0))) ∧ Aside0 (Below w.heap.size w wr) ∧ Aside0 ((j = 0 ∧ a0 = 0 ∧ a1 = 0) ∨ (j = 1 ∧ a0 = p0.1 ∧ p0.2 = true ∧ a1 = 0) ∨ (j = 2 ∧ a0 = p0.1 ∧ p0.2 = true ∧ a1 = p1.1 ∧ p1.2 = true))) (fun v24 _ => l.length - (intOf v24).toNat)
      case atStart => exact ⟨0, 0, 0, rfl, by omega, HBV, HBE3, HB3, ⟨.inl ⟨rfl, rfl, rfl⟩⟩⟩
      case round =>
        clear HBV HBE3 HB3
        obtain ⟨j, a0, a1, rfl, hj, HBV, HBE, HB, HD⟩ := hrel
        by_cases hlt : j < l.length
        · have hlt' : ((j : Int) < (l.length : Int)) = True := eq_true (by omega)
          have hltn : (j < l.length) = True := eq_true hlt
          obtain ⟨ad, A3, c3, ea, x0, x1, x2, x3, hl3, hC3⟩ := at_T36 (Kd.C_below HR.out.1 HB.out) (j : Int) (by omega) (by omega)
          subst ea
          obtain ⟨xx, hxx⟩ : ∃ xx, xx = rd_T36 l (j : Int) := ⟨_, rfl⟩
          obtain ⟨pj, hpj, hpj2⟩ : ∃ pj, eval_Expr.f k xx.f0 xx.f1 xx.f2 xx.f3 names vals = some pj ∧ ((j = 0 ∧ pj = p0) ∨ (j = 1 ∧ pj = p1)) := by
            have h0 := HP0.out
            have h1 := HP1.out
            rcases (show j = 0 ∨ j = 1 by omega) with rfl | rfl
            · rw [if_pos (by omega)] at h0
              exact ⟨p0, by rw [hxx]; exact h0, .inl ⟨rfl, rfl⟩⟩
            · rw [if_pos (by omega)] at h1
              exact ⟨p1, by rw [hxx]; exact h1, .inr ⟨rfl, rfl⟩⟩
          rw [← hxx] at x0 x1 x2 x3 hl3 hC3
          clear hxx
          obtain ⟨xo, xn, xm, xl⟩ := xx
          have X0 : wr.cell? (ad.add (j * 4)) = some (.int .i64 xo) := x0
          have X1 : wr.cell? ⟨(ad.add (j * 4)).block, (ad.add (j * 4)).off + 1, none⟩ = some (.int .i64 xn) := x1
          have X2 : wr.cell? ⟨(ad.add (j * 4)).block, (ad.add (j * 4)).off + 2, none⟩ = some (.string xm) := x2
          have X3 : wr.cell? ⟨(ad.add (j * 4)).block, (ad.add (j * 4)).off + 3, none⟩ = some (.slice A3 xl.length c3) := x3
          have HC3 := Aside0.mk hC3
          have HPJ := Aside0.mk hpj
          have HPJ2 := Aside0.mk hpj2
          have hnb : (wr.alloc (.cells #[.int .i64 xo, .int .i64 xn, .string xm, .slice A3 xl.length c3] 36)).heap[wr.heap.size]? = some (.cells #[.int .i64 xo, .int .i64 xn, .string xm, .slice A3 xl.length c3] 36 (0, 0)) := blk_new _ _
          have y0 : (wr.alloc (.cells #[.int .i64 xo, .int .i64 xn, .string xm, .slice A3 xl.length c3] 36)).cell? ⟨wr.heap.size, 0, none⟩ = some (.int .i64 xo) := (blk_cell hnb 0).trans rfl
          have y1 : (wr.alloc (.cells #[.int .i64 xo, .int .i64 xn, .string xm, .slice A3 xl.length c3] 36)).cell? ⟨wr.heap.size, 1, none⟩ = some (.int .i64 xn) := (blk_cell hnb 1).trans rfl
          have y2 : (wr.alloc (.cells #[.int .i64 xo, .int .i64 xn, .string xm, .slice A3 xl.length c3] 36)).cell? ⟨wr.heap.size, 2, none⟩ = some (.string xm) := (blk_cell hnb 2).trans rfl
          have y3 : (wr.alloc (.cells #[.int .i64 xo, .int .i64 xn, .string xm, .slice A3 xl.length c3] 36)).cell? ⟨wr.heap.size, 3, none⟩ = some (.slice A3 xl.length c3) := (blk_cell hnb 3).trans rfl
          clear x0 x1 x2 x3 hC3 hpj hpj2 hnb
          have hxl3 : xl.length ≤ c3 := hl3
          clear hl3
          go_wp2_with fail
          have HBa := Aside0.mk (below_alloc HB.out (.cells #[.int .i64 xo, .int .i64 xn, .string xm, .slice A3 xl.length c3] 36))
          refine (IH.out xo xn xm A3 c3 xl A1 c1 names A2 c2 vals pj.1 pj.2 (wr.alloc (.cells #[.int .i64 xo, .int .i64 xn, .string xm, .slice A3 xl.length c3] 36)) (Kd.C_alloc HC3.out _) hxl3 (Kd.C_below HR.out.2.1 HBa.out) hc1 (Kd.C_below HR.out.2.2 HBa.out) hc2 HPJ.out).mono ?_
          rintro e w5 ⟨rfl, HB5⟩
          have HBV5 := Aside0.mk (blk_below (blk_alloc HBV.out _) HB5)
          have HBE5 := Aside0.mk (blk_below (blk_alloc HBE.out _) HB5)
          have HB6 := Aside0.mk (below_step HBa.out HB5)
          clear HB5 HBa HBV HBE HB X0 X1 X2 X3 y0 y1 y2 y3
          obtain ⟨pv, pb⟩ := pj
          cases pb with
          | false =>
            have hr12 : r1 = 0 ∧ r2 = false := by
              have h := HH.out
              have h2 := HPJ2.out
              have h3 : p0.2 = false ∨ p1.2 = false := by
                rcases h2 with ⟨_, e⟩ | ⟨_, e⟩
                · exact .inl (by rw [← e])
                · exact .inr (by rw [← e])
              rw [if_pos h3] at h
              have he := Option.some.inj h
              exact ⟨(Prod.mk.inj he).1.symm, (Prod.mk.inj he).2.symm⟩
            obtain ⟨rfl, rfl⟩ := hr12
            go_wp2
            go_ret2
            exact ⟨rfl, HB6.out⟩
          | true =>
            have hj2 : j < 2 := by omega
            have hj2' : ((j : Int) < 2) = True := eq_true (by omega)
            have hj2n : (j < 2) = True := eq_true hj2
            have y1 : (∃ u, w5.cell? ⟨bv, j, none⟩ = some u) := by
              rcases (show j = 0 ∨ j = 1 by omega) with rfl | rfl
              · exact ⟨_, (blk_cell HBV5.out 0).trans rfl⟩
              · exact ⟨_, (blk_cell HBV5.out 1).trans rfl⟩
            obtain ⟨uo, y1⟩ := y1
            have y2 : w5.frozen? ⟨bv, j, none⟩ = false := blk_frozen HBV5.out j
            have HBV6 : Aside0 ((w5.setCell ⟨bv, j, none⟩ (.int .i64 pv)).heap[bv]? = some (.cells (if j = 0 then #[.int .i64 pv, .int .i64 a1] else #[.int .i64 a0, .int .i64 pv]) 54 (0, 0))) := ⟨by
              rcases (show j = 0 ∨ j = 1 by omega) with rfl | rfl
              · exact blk_put HBV5.out 0 _ rfl
              · exact blk_put HBV5.out 1 _ rfl⟩
            have HBE6 := Aside0.mk (blk_far (p := ⟨bv, j, none⟩) HBE5.out (by have := hbv.out; show _ ≠ bv; omega) (.int .i64 pv))
            have HB7 := Aside0.mk (below_set (g := bv) (j := j) (v := .int .i64 pv) HB6.out (by have := hbv.out; omega))
            go_wp2_with fail
            go_roundw
            case rel =>
              have hd := HD.out
              have h2 := HPJ2.out
              rcases (show j = 0 ∨ j = 1 by omega) with rfl | rfl
              · refine ⟨1, pv, a1, rfl, by omega, HBV6, HBE6, HB7, ⟨.inr (.inl ⟨rfl, ?_⟩)⟩⟩
                rcases hd with ⟨_, e0, e1⟩ | ⟨e, _⟩ | ⟨e, _⟩
                · rcases h2 with ⟨_, e⟩ | ⟨e, _⟩
                  · rw [← e]; exact ⟨rfl, rfl, e1⟩
                  · omega
                · omega
                · omega
              · refine ⟨2, a0, pv, rfl, by omega, HBV6, HBE6, HB7, ⟨.inr (.inr ⟨rfl, ?_⟩)⟩⟩
                rcases hd with ⟨e, _⟩ | ⟨_, e0, e1, e2⟩ | ⟨e, _⟩
                · omega
                · rcases h2 with ⟨e, _⟩ | ⟨_, e⟩
                  · omega
                  · rw [← e]; exact ⟨e0, e1, rfl, rfl⟩
                · omega
            case measure => simp [intOf]; omega
        · have hlt' : ((j : Int) < (l.length : Int)) = False := eq_false (by omega)
          obtain ⟨e0, e1, hT⟩ : a0 = p0.1 ∧ a1 = p1.1 ∧ eval_Expr.tl k op n nm names vals p0.1 p1.1 = some (r1, r2) := by
            have hd := HD.out
            have h := HH.out
            have h0 := HP0.out
            have h1 := HP1.out
            rcases hd with ⟨ej, ea0, ea1⟩ | ⟨ej, ea0, eb0, ea1⟩ | ⟨ej, ea0, eb0, ea1, eb1⟩
            · rw [if_neg (by omega)] at h0 h1
              have q0 := Option.some.inj h0
              have q1 := Option.some.inj h1
              rw [← q0, ← q1] at h ⊢
              rw [if_neg (by simp)] at h
              exact ⟨ea0, ea1, h⟩
            · rw [if_neg (by omega)] at h1
              have q1 := Option.some.inj h1
              rw [← q1] at h ⊢
              rw [if_neg (by simp [eb0])] at h
              exact ⟨ea0, ea1, h⟩
            · rw [if_neg (by simp [eb0, eb1])] at h
              exact ⟨ea0, ea1, h⟩
          have HT := Aside0.mk hT
          clear hT
          subst e0
          subst e1
          have y0 : wr.cell? ⟨w.heap.size, 0, none⟩ = some (.int .i64 op) := (blk_cell HBE.out 0).trans rfl
          have y1 : wr.cell? ⟨w.heap.size, 1, none⟩ = some (.int .i64 n) := (blk_cell HBE.out 1).trans rfl
          have y2 : wr.cell? ⟨w.heap.size, 2, none⟩ = some (.string nm) := (blk_cell HBE.out 2).trans rfl
          have u0 : wr.cell? ⟨bv, 0, none⟩ = some (.int .i64 p0.1) := (blk_cell HBV.out 0).trans rfl
          have u1 : wr.cell? ⟨bv, 1, none⟩ = some (.int .i64 p1.1) := (blk_cell HBV.out 1).trans rfl
          by_cases o1 : op = 1
          · have o1' := eq_true o1
            have hr := HT.out
            rw [eval_Expr.tl, if_pos o1] at hr
            have he := Option.some.inj hr
            obtain ⟨rfl, rfl⟩ := Prod.mk.inj he
            go_wp2
            go_ret2
            exact ⟨rfl, HB.out⟩
          · have o1' := eq_false o1
            by_cases o2 : op = 2
            · have o2' := eq_true o2
              have hr := HT.out
              rw [eval_Expr.tl, if_neg o1, if_pos o2] at hr
              obtain ⟨i, hi, hr⟩ := Option.bind_eq_some_iff.1 hr
              have HI := Aside0.mk hi
              clear hi
              go_wp2_with fail
              refine (slices_Index_string_string.calls k A1 c1 names nm i wr (Kd.C_below HR.out.2.1 HB.out) hc1 HI.out).mono ?_
              rintro e w6 ⟨rfl, ⟨⟨kq2, rfl⟩⟩⟩
              by_cases i0 : i < 0
              · have i0' := eq_true i0
                rw [if_pos (.inl i0)] at hr
                have he := Option.some.inj hr
                obtain ⟨rfl, rfl⟩ := Prod.mk.inj he
                go_wp2
                go_ret2
                exact ⟨rfl, pw_below_drewN HB.out _⟩
              · have i0' := eq_false i0
                by_cases i1 : (vals.length : Int) ≤ i
                · have i1' := eq_true i1
                  rw [if_pos (.inr i1)] at hr
                  have he := Option.some.inj hr
                  obtain ⟨rfl, rfl⟩ := Prod.mk.inj he
                  go_wp2
                  go_ret2
                  exact ⟨rfl, pw_below_drewN HB.out _⟩
                · have i1' := eq_false i1
                  have i2' : (i < (vals.length : Int)) = True := eq_true (by omega)
                  have i3' : (0 ≤ i) = True := eq_true (by omega)
                  rw [if_neg (by omega)] at hr
                  have he := Option.some.inj hr
                  obtain ⟨rfl, rfl⟩ := Prod.mk.inj he
                  obtain ⟨adv, ev, hv⟩ := Kd.at_int (Kd.C_below HR.out.2.2 (pw_below_drewN HB.out kq2)) i (by omega) (by omega)
                  subst ev
                  go_wp2
                  go_ret2
                  exact ⟨rfl, pw_below_drewN HB.out _⟩
            · have o2' := eq_false o2
              by_cases o45 : op = 4 ∨ op = 5
              · have hr := HT.out
                rw [eval_Expr.tl, if_neg o1, if_neg o2, if_pos o45] at hr
                have HU := Aside0.mk hr
                clear hr
                rcases o45 with rfl | rfl
                · go_wp2_with fail
                  refine (eval_Unary.calls 4 p0.1 r1 r2 wr HU.out).mono ?_
                  rintro e w6 ⟨rfl, ⟨⟨kq2, rfl⟩⟩⟩
                  go_wp2
                  go_ret2
                  exact ⟨rfl, pw_below_drewN HB.out _⟩
                · go_wp2_with fail
                  refine (eval_Unary.calls 5 p0.1 r1 r2 wr HU.out).mono ?_
                  rintro e w6 ⟨rfl, ⟨⟨kq2, rfl⟩⟩⟩
                  go_wp2
                  go_ret2
                  exact ⟨rfl, pw_below_drewN HB.out _⟩
              · have o4' : (op = 4) = False := eq_false (fun e => o45 (.inl e))
                have o5' : (op = 5) = False := eq_false (fun e => o45 (.inr e))
                have hr := HT.out
                rw [eval_Expr.tl, if_neg o1, if_neg o2, if_neg o45] at hr
                have HU := Aside0.mk hr
                clear hr
                go_wp2_with fail
                refine (eval_Binary.calls k op p0.1 p1.1 r1 r2 wr HU.out).mono ?_
                rintro e w6 ⟨rfl, ⟨⟨kq2, rfl⟩⟩⟩
                go_wp2
                go_ret2
                exact ⟨rfl, pw_below_drewN HB.out _⟩
    · have hlo' := eq_false hlo
      rw [if_pos hlo] at h
      have he := Option.some.inj h
      obtain ⟨rfl, rfl⟩ := Prod.mk.inj he
      go_wp2_with fail
      refine start_ (n := 7) (S := fun w' => w'.cell? ⟨w.heap.size, 0, none⟩ = some (.int .i64 op) ∧ w'.cell? ⟨w.heap.size, 3, none⟩ = some (.slice A l.length c) ∧ Aside0 (Below w.heap.size w w') ∧ Aside0 (w'.heap[w.heap.size]? = some (.cells #[.int .i64 op, .int .i64 n, .string nm, .slice A l.length c] 36 (0, 0)))) (ds := []) #[false, false, false, false, false, false, false] (by kernel_rfl) rfl rfl ⟨z0, z3, Aside0.mk (below_drew HB1.out), Aside0.mk (blk_drew HBE.out)⟩ (fun hHeld => ?_)
      refine pure_ (i := 0) (N := some 14) (v := ?_) (a' := ?_) #[true, false, false, false, false, false, false] rfl rfl (by kernel_rfl) (fun _ _ _ h => h) (Or.inl ⟨by rfl, ?_⟩) ?_ ?_
      rotate_left
      · intro w'
        go_simp
        with_reducible rfl
      rotate_left
      · simp only [Act.put, List.setIfInBounds_toArray, List.set_cons_zero, List.set_cons_succ, i64_w, i32_w]
        rfl
      refine pure_ (i := 3) (N := some 17) (v := ?_) (a' := ?_) #[true, false, false, true, false, false, false] rfl rfl (by kernel_rfl) (fun _ _ _ h => h) (Or.inl ⟨by rfl, ?_⟩) ?_ ?_
      rotate_left
      · intro w'
        go_simp
        with_reducible rfl
      rotate_left
      · simp only [Act.put, List.setIfInBounds_toArray, List.set_cons_zero, List.set_cons_succ, i64_w, i32_w]
        rfl
      refine take_ (i := 1) (N := some 15) (v := ?_) (a' := ?_) #[true, true, false, true, false, false, false] rfl rfl (by kernel_rfl) (fun _ _ _ h => h) (Or.inl ⟨by rfl, ?_⟩) hHeld ?_ ?_
      rotate_left
      · rintro w' ⟨s0, s1, s2, s3⟩
        go_simp
        with_reducible rfl
      rotate_left
      · simp only [Act.put, List.setIfInBounds_toArray, List.set_cons_zero, List.set_cons_succ, i64_w, i32_w]
        rfl
      refine pure_ (i := 2) (N := some 16) (v := ?_) (a' := ?_) #[true, true, true, true, false, false, false] rfl rfl (by kernel_rfl) (fun _ _ _ h => h) (Or.inl ⟨by rfl, ?_⟩) ?_ ?_
      rotate_left
      · intro w'
        go_simp
        with_reducible rfl
      rotate_left
      · simp only [Act.put, List.setIfInBounds_toArray, List.set_cons_zero, List.set_cons_succ, i64_w, i32_w]
        rfl
      refine take_ (i := 4) (N := some 18) (v := ?_) (a' := ?_) #[true, true, true, true, true, false, false] rfl rfl (by kernel_rfl) (fun _ _ _ h => h) (Or.inl ⟨by rfl, ?_⟩) hHeld ?_ ?_
      rotate_left
      · rintro w' ⟨s0, s1, s2, s3⟩
        go_simp
        with_reducible rfl
      rotate_left
      · simp only [Act.put, List.setIfInBounds_toArray, List.set_cons_zero, List.set_cons_succ, i64_w, i32_w]
        rfl
      refine one_ (i := 5) (N := some 19) #[true, true, true, true, true, true, false] rfl rfl (by kernel_rfl) (by decide) (fun K hK => ?_)
      obtain ⟨t0, t1, t2, t3⟩ := hHeld
      refine goes_ Try.func26 (by kernel_rfl) rfl #[.int .i64 op] (by rfl) rfl rfl (by simp only [List.map_toArray, List.map_cons, List.map_nil]; rfl) ?_
      with_reducible refine (eval_operands.calls k op _ _ HO.out).mono ?_
      rintro e w3 ⟨rfl, ⟨⟨kq, rfl⟩⟩⟩
      refine ⟨_, rfl, ?_⟩
      refine hK.out _ _ ⟨t0, t1, ⟨pw_below_drewN t2.out kq⟩, ⟨blk_drewN t3.out kq⟩⟩ (fun hHeld => ?_)
      clear hK K
      refine norm_ (a' := ?_) ?_ ?_
      rotate_left
      · show Act.put _ (some 19) _ = _
        simp only [Act.put, List.setIfInBounds_toArray, List.set_cons_zero, List.set_cons_succ, i64_w, i32_w]
        rfl
      refine pure_ (i := 6) (N := some 20) (v := ?_) (a' := ?_) #[true, true, true, true, true, true, true] rfl rfl (by kernel_rfl) (fun _ _ _ h => h) (Or.inl ⟨by rfl, ?_⟩) ?_ ?_
      rotate_left
      · intro w'
        go_simp
        with_reducible rfl
      rotate_left
      · simp only [Act.put, List.setIfInBounds_toArray, List.set_cons_zero, List.set_cons_succ, i64_w, i32_w]
        rfl
      refine done_ (by kernel_rfl) ?_
      obtain ⟨_, _, HBf, _⟩ := hHeld
      go_wp2
      go_ret2
      exact ⟨rfl, HBf.out⟩

/-! ### interleaveref05_truth: function 28 -/
def interleaveref05_truth.f (a0 : Bool) : Option (Int) := if a0 = true then (some 1) else (some 0)
set_option maxHeartbeats 8000000 in
set_option maxRecDepth 100000 in
theorem interleaveref05_truth.calls (a0 : Bool) (r : Int) (w : World) (h : interleaveref05_truth.f a0 = some r) :
    Calls Try.prog 28 #[.bool a0] w fun e w' => e = .returned (.int .i64 r) ∧ Drawn0 w w' := by
  have H : (if a0 = true then (some 1) else (some 0)) = some r := h
  clear h
  by_cases c2 : a0 = true
  · subst c2
    have H1 : (some 1) = some r := by rw [if_pos rfl] at H; exact H
    clear H
    have H := H1
    clear H1
    obtain rfl := Option.some.inj H
    go_enter Try.func28, Try.ntmps28
    go_wp2
    go_ret
    exact ⟨by first | rfl | (simp; done) | (simp [*]; done), by repeat (first | exact Drawn0.refl _ | apply Drawn0.step)⟩
  · replace c2 := Bool.eq_false_iff.mpr c2
    subst c2
    have H1 : (some 0) = some r := by rw [if_neg (show ¬ (false = true) by decide)] at H; exact H
    clear H
    have H := H1
    clear H1
    obtain rfl := Option.some.inj H
    go_enter Try.func28, Try.ntmps28
    go_wp2
    go_ret
    exact ⟨by first | rfl | (simp; done) | (simp [*]; done), by repeat (first | exact Drawn0.refl _ | apply Drawn0.step)⟩

end Go.Proofs.Ytgoefoilghjfhaa.MEvalExprTells
