-- Written by a program of this session (wip/myprint in its repo: the kit's print with additions of its own).
import Derived.Test.YtgoefoilghjfhaaMEvalExprTellsx0
namespace Go.Proofs.Ytgoefoilghjfhaa.MEvalExprTells
open Go.RowKit Go.Proofs.YtgoefoilghjfhaaW.PrintWords Go.Proofs.YtgoefoilghjfhaaW.PrintLast Go.Proofs.YtgoefoilghjfhaaW.PrintMore
attribute [local go_sem] max2_int min2_int max_two min_two max_three min_three max_four min_four   -- for this text's walks alone
set_option linter.unusedVariables false
set_option linter.unusedSimpArgs false

/-! ### eval_divide: function 21 -/
def eval_divide.f (a0 : Int) (a1 : Int) (a2 : Int) : Option (Int) := if a2 = 0 then (some 0) else (if a0 = 9 then (some (wrap64 (Int.tdiv a1 a2))) else (some (Int.tmod a1 a2)))
set_option maxHeartbeats 8000000 in
set_option maxRecDepth 100000 in
theorem eval_divide.calls (a0 : Int) (a1 : Int) (a2 : Int) (r : Int) (w : World) (h : eval_divide.f a0 a1 a2 = some r) :
    Calls Try.prog 21 #[.int .i64 a0, .int .i64 a1, .int .i64 a2] w fun e w' => e = .returned (.int .i64 r) ∧ Drawn0 w w' := by
  have H : (if a2 = 0 then (some 0) else (if a0 = 9 then (some (wrap64 (Int.tdiv a1 a2))) else (some (Int.tmod a1 a2)))) = some r := h
  clear h
  by_cases c4 : a2 = 0
  · rw [if_pos c4] at H
    have c4b0 : (a2 == 0) = true := beq_iff_eq.mpr c4
    have c4b1 : (a2 != 0) = false := bne_eq_false_iff_eq.mpr c4
    clear c4
    obtain rfl := Option.some.inj H
    go_enter Try.func21, Try.ntmps21
    go_wp2
    go_ret
    exact ⟨by first | rfl | (simp; done) | (simp [*]; done), by repeat (first | exact Drawn0.refl _ | apply Drawn0.step)⟩
  · rw [if_neg c4] at H
    have c4b0 : (a2 == 0) = false := beq_eq_false_iff_ne.mpr c4
    have c4b1 : (a2 != 0) = true := bne_iff_ne.mpr c4
    by_cases c5 : a0 = 9
    · rw [if_pos c5] at H
      have c5b0 : (a0 == 9) = true := beq_iff_eq.mpr c5
      have c5b1 : (a0 != 9) = false := bne_eq_false_iff_eq.mpr c5
      clear c5
      obtain rfl := Option.some.inj H
      go_enter Try.func21, Try.ntmps21
      go_wp2
      go_ret
      exact ⟨by first | rfl | (simp; done) | (simp [*]; done), by repeat (first | exact Drawn0.refl _ | apply Drawn0.step)⟩
    · rw [if_neg c5] at H
      have c5b0 : (a0 == 9) = false := beq_eq_false_iff_ne.mpr c5
      have c5b1 : (a0 != 9) = true := bne_iff_ne.mpr c5
      obtain rfl := Option.some.inj H
      go_enter Try.func21, Try.ntmps21
      go_wp2
      go_ret
      exact ⟨by first | rfl | (simp; done) | (simp [*]; done), by repeat (first | exact Drawn0.refl _ | apply Drawn0.step)⟩

/-! ### eval_truth: function 22 -/
def eval_truth.f (a0 : Bool) : Option (Int) := if a0 = true then (some 1) else (some 0)
set_option maxHeartbeats 8000000 in
set_option maxRecDepth 100000 in
theorem eval_truth.calls (a0 : Bool) (r : Int) (w : World) (h : eval_truth.f a0 = some r) :
    Calls Try.prog 22 #[.bool a0] w fun e w' => e = .returned (.int .i64 r) ∧ Drawn0 w w' := by
  have H : (if a0 = true then (some 1) else (some 0)) = some r := h
  clear h
  by_cases c2 : a0 = true
  · subst c2
    have H1 : (some 1) = some r := by rw [if_pos rfl] at H; exact H
    clear H
    have H := H1
    clear H1
    obtain rfl := Option.some.inj H
    go_enter Try.func22, Try.ntmps22
    go_wp2
    go_ret
    exact ⟨by first | rfl | (simp; done) | (simp [*]; done), by repeat (first | exact Drawn0.refl _ | apply Drawn0.step)⟩
  · replace c2 := Bool.eq_false_iff.mpr c2
    subst c2
    have H1 : (some 0) = some r := by rw [if_neg (show ¬ (false = true) by decide)] at H; exact H
    clear H
    have H := H1
    clear H1
    obtain rfl := Option.some.inj H
    go_enter Try.func22, Try.ntmps22
    go_wp2
    go_ret
    exact ⟨by first | rfl | (simp; done) | (simp [*]; done), by repeat (first | exact Drawn0.refl _ | apply Drawn0.step)⟩

/-! ### eval_Binary: function 10 -/
def eval_Binary.j0 : Nat → Int → Int → Int → Int → Bool → Option (Int × Bool)
  | 0, _, _, _, _, _ => none
  | k + 1, x0, x1, x2, x8, x24 => if x24 = true then ((eval_divide.f x0 x1 x2).bind fun t101 => (some (t101, true))) else (if x8 = 11 then ((eval_truth.f (x1 == x2)).bind fun t102 => (some (t102, true))) else (if x8 = 12 then ((eval_truth.f (x1 != x2)).bind fun t103 => (some (t103, true))) else (if x8 = 13 then ((eval_truth.f (decide (x1 < x2))).bind fun t104 => (some (t104, true))) else (if x8 = 14 then ((eval_truth.f (decide (x1 ≤ x2))).bind fun t105 => (some (t105, true))) else (if x8 = 15 then ((eval_truth.f (decide (x1 > x2))).bind fun t106 => (some (t106, true))) else (if x8 = 16 then ((eval_truth.f (decide (x1 ≥ x2))).bind fun t107 => (some (t107, true))) else (if x8 = 17 then (if x1 = 0 then ((eval_truth.f false).bind fun t108 => (some (t108, true))) else ((eval_truth.f (x2 != 0)).bind fun t109 => (some (t109, true)))) else (if x8 = 18 then (if x1 = 0 then ((eval_truth.f (x2 != 0)).bind fun t110 => (some (t110, true))) else ((eval_truth.f true).bind fun t111 => (some (t111, true)))) else (some (0, false))))))))))
def eval_Binary.f (k : Nat) (a0 : Int) (a1 : Int) (a2 : Int) : Option (Int × Bool) := if a0 = 6 then (some (wrap64 (a1 + a2), true)) else (if a0 = 7 then (some (wrap64 (a1 - a2), true)) else (if a0 = 8 then (some (wrap64 (a1 * a2), true)) else (if a0 = 9 then (eval_Binary.j0 k a0 a1 a2 a0 (a0 == 9)) else (eval_Binary.j0 k a0 a1 a2 a0 (a0 == 10)))))
theorem eval_Binary.mono_l : ∀ k, (∀ y0 y1 y2 y3 y4, LeO (eval_Binary.j0 k y0 y1 y2 y3 y4) (eval_Binary.j0 (k + 1) y0 y1 y2 y3 y4))
  | 0 => fun _ _ _ _ _ r h => by simp [eval_Binary.j0] at h
  | k + 1 => by
    have ih0 := eval_Binary.mono_l k
    · intro y0 y1 y2 y3 y4
      unfold eval_Binary.j0
      repeat' first
      | (with_reducible exact ih0 _ _ _ _ _)
      | (with_reducible exact LeO.refl _)
      | (with_reducible exact LeO.none _)
      | (with_reducible refine LeO.ite ?_ ?_)
      | (with_reducible refine LeO.bind ?_ (fun _ => ?_))
      | exact ih0 _ _ _ _ _
      | exact LeO.none _
      | refine LeO.ite ?_ ?_
      | refine LeO.bind ?_ (fun _ => ?_)
theorem eval_Binary.mono : ∀ a0 a1 a2 k, LeO (eval_Binary.f k a0 a1 a2) (eval_Binary.f (k + 1) a0 a1 a2) := by
  intro a0 a1 a2 k
  have ih0 := eval_Binary.mono_l k
  unfold eval_Binary.f
  repeat' first
      | (with_reducible exact ih0 _ _ _ _ _)
      | (with_reducible exact LeO.refl _)
      | (with_reducible exact LeO.none _)
      | (with_reducible refine LeO.ite ?_ ?_)
      | (with_reducible refine LeO.bind ?_ (fun _ => ?_))
      | exact ih0 _ _ _ _ _
      | exact LeO.none _
      | refine LeO.ite ?_ ?_
      | refine LeO.bind ?_ (fun _ => ?_)
set_option maxHeartbeats 8000000 in
set_option maxRecDepth 100000 in
theorem eval_Binary.calls (k : Nat) (a0 : Int) (a1 : Int) (a2 : Int) (r1 : Int) (r2 : Bool) (w : World) (h : eval_Binary.f k a0 a1 a2 = some (r1, r2)) :
    Calls Try.prog 10 #[.int .i64 a0, .int .i64 a1, .int .i64 a2] w fun e w' => e = .returned (.tuple #[.int .i64 r1, .bool r2]) ∧ Drawn0 w w' := by
  have H : (if a0 = 6 then (some (wrap64 (a1 + a2), true)) else (if a0 = 7 then (some (wrap64 (a1 - a2), true)) else (if a0 = 8 then (some (wrap64 (a1 * a2), true)) else (if a0 = 9 then (eval_Binary.j0 k a0 a1 a2 a0 (a0 == 9)) else (eval_Binary.j0 k a0 a1 a2 a0 (a0 == 10)))))) = some (r1, r2) := h
  clear h
  by_cases c4 : a0 = 6
  · rw [if_pos c4] at H
    have c4b0 : (a0 == 6) = true := beq_iff_eq.mpr c4
    have c4b1 : (a0 != 6) = false := bne_eq_false_iff_eq.mpr c4
    clear c4
    simp only [Option.some.injEq, Prod.mk.injEq] at H
    obtain ⟨rfl, rfl⟩ := H
    go_enter Try.func10, Try.ntmps10
    go_wp2
    go_ret2
    exact ⟨by first | rfl | (simp; done) | (simp [*]; done), by repeat (first | exact Drawn0.refl _ | apply Drawn0.step)⟩
  · rw [if_neg c4] at H
    have c4b0 : (a0 == 6) = false := beq_eq_false_iff_ne.mpr c4
    have c4b1 : (a0 != 6) = true := bne_iff_ne.mpr c4
    by_cases c5 : a0 = 7
    · rw [if_pos c5] at H
      have c5b0 : (a0 == 7) = true := beq_iff_eq.mpr c5
      have c5b1 : (a0 != 7) = false := bne_eq_false_iff_eq.mpr c5
      clear c5
      simp only [Option.some.injEq, Prod.mk.injEq] at H
      obtain ⟨rfl, rfl⟩ := H
      go_enter Try.func10, Try.ntmps10
      go_wp2
      go_ret2
      exact ⟨by first | rfl | (simp; done) | (simp [*]; done), by repeat (first | exact Drawn0.refl _ | apply Drawn0.step)⟩
    · rw [if_neg c5] at H
      have c5b0 : (a0 == 7) = false := beq_eq_false_iff_ne.mpr c5
      have c5b1 : (a0 != 7) = true := bne_iff_ne.mpr c5
      by_cases c6 : a0 = 8
      · rw [if_pos c6] at H
        have c6b0 : (a0 == 8) = true := beq_iff_eq.mpr c6
        have c6b1 : (a0 != 8) = false := bne_eq_false_iff_eq.mpr c6
        clear c6
        simp only [Option.some.injEq, Prod.mk.injEq] at H
        obtain ⟨rfl, rfl⟩ := H
        go_enter Try.func10, Try.ntmps10
        go_wp2
        go_ret2
        exact ⟨by first | rfl | (simp; done) | (simp [*]; done), by repeat (first | exact Drawn0.refl _ | apply Drawn0.step)⟩
      · rw [if_neg c6] at H
        have c6b0 : (a0 == 8) = false := beq_eq_false_iff_ne.mpr c6
        have c6b1 : (a0 != 8) = true := bne_iff_ne.mpr c6
        have HC7 := Aside0.mk H
        clear H
        go_enter Try.func10, Try.ntmps10
        go_upto_if 24 with (fail)
        go_cut [24] (fun v24 wc => ∃ (kq : Nat) (x24_6 : Bool), v24 = .bool x24_6 ∧ Aside0 (eval_Binary.j0 kq a0 a1 a2 a0 x24_6 = some (r1, r2)) ∧ Aside0 (kq ≤ k) ∧ Drawn0 w wc)
        case first =>
          have H := HC7.out
          clear HC7
          by_cases c8 : a0 = 9
          · rw [if_pos c8] at H
            have c8b0 : (a0 == 9) = true := beq_iff_eq.mpr c8
            have c8b1 : (a0 != 9) = false := bne_eq_false_iff_eq.mpr c8
            clear c8
            (first | rw [c8b0] | (simp only [i64_w, i32_w]; rw [c8b0]) | skip)
            have H' := Aside0.mk H
            clear H
            go_wp2
            go_meet
            case rel => exact ⟨_, ((a0 == 9)), (by first | rfl | (simp; done) | (simp [*]; done)), H', ⟨by first | omega | exact Nat.le_refl _⟩, by repeat (first | exact Drawn0.refl _ | apply Drawn0.step)⟩
          · rw [if_neg c8] at H
            have c8b0 : (a0 == 9) = false := beq_eq_false_iff_ne.mpr c8
            have c8b1 : (a0 != 9) = true := bne_iff_ne.mpr c8
            (first | rw [c8b0] | (simp only [i64_w, i32_w]; rw [c8b0]) | skip)
            have H' := Aside0.mk H
            clear H
            go_wp2
            go_meet
            case rel => exact ⟨_, ((a0 == 10)), (by first | rfl | (simp; done) | (simp [*]; done)), H', ⟨by first | omega | exact Nat.le_refl _⟩, by repeat (first | exact Drawn0.refl _ | apply Drawn0.step)⟩
        case rest =>
          clear HC7
          try clear c1
          try clear p2
          try clear c4
          try clear c4b0
          try clear c4b1
          try clear c5
          try clear c5b0
          try clear c5b1
          try clear c6
          try clear c6b0
          try clear c6b1
          try clear p6
          try clear c8
          try clear c8b0
          try clear c8b1
          obtain ⟨kq, x24_6, rfl, HA, HJ6, ⟨mc6, rfl⟩⟩ := hcut
          cases kq with
          | zero => exact absurd HA.out (by simp [eval_Binary.j0])
          | succ kj6 =>
            have H := HA.out
            clear HA
            simp only [eval_Binary.j0] at H
            by_cases c9 : x24_6 = true
            · subst c9
              have H1 : ((eval_divide.f a0 a1 a2).bind fun t101 => (some (t101, true))) = some (r1, r2) := by rw [if_pos rfl] at H; exact H
              clear H
              have H := H1
              clear H1
              replace H := Option.bind_eq_some_iff.mp H
              obtain ⟨t101, A100, H⟩ := H
              replace H : (some (t101, true)) = some (r1, r2) := H
              have A10 := Aside0.mk A100
              clear A100
              simp only [Option.some.injEq, Prod.mk.injEq] at H
              obtain ⟨rfl, rfl⟩ := H
              go_wp2_with (first | ((with_reducible refine gate_callee (f := 21) rfl ?_); refine goesL_ (some 30) rfl rfl Try.func21 (by kernel_rfl) rfl #[.int .i64 a0, .int .i64 a1, .int .i64 a2] rfl (by (try simp only [List.map_toArray, List.map_cons, List.map_nil]); first | done | rfl | (simp only [List.length_drop, List.length_take]; rfl)) ?_; (with_reducible refine (eval_divide.calls a0 a1 a2 t101 _ A10.out).mono ?_); rintro e w' ⟨rfl, ⟨nd, rfl⟩⟩; refine ⟨_, rfl, ?_⟩))
              go_ret2
              exact ⟨by first | rfl | (simp; done) | (simp [*]; done), by repeat (first | exact Drawn0.refl _ | apply Drawn0.step)⟩
            · replace c9 := Bool.eq_false_iff.mpr c9
              subst c9
              have H1 : (if a0 = 11 then ((eval_truth.f (a1 == a2)).bind fun t102 => (some (t102, true))) else (if a0 = 12 then ((eval_truth.f (a1 != a2)).bind fun t103 => (some (t103, true))) else (if a0 = 13 then ((eval_truth.f (decide (a1 < a2))).bind fun t104 => (some (t104, true))) else (if a0 = 14 then ((eval_truth.f (decide (a1 ≤ a2))).bind fun t105 => (some (t105, true))) else (if a0 = 15 then ((eval_truth.f (decide (a1 > a2))).bind fun t106 => (some (t106, true))) else (if a0 = 16 then ((eval_truth.f (decide (a1 ≥ a2))).bind fun t107 => (some (t107, true))) else (if a0 = 17 then (if a1 = 0 then ((eval_truth.f false).bind fun t108 => (some (t108, true))) else ((eval_truth.f (a2 != 0)).bind fun t109 => (some (t109, true)))) else (if a0 = 18 then (if a1 = 0 then ((eval_truth.f (a2 != 0)).bind fun t110 => (some (t110, true))) else ((eval_truth.f true).bind fun t111 => (some (t111, true)))) else (some (0, false)))))))))) = some (r1, r2) := by rw [if_neg (show ¬ (false = true) by decide)] at H; exact H
              clear H
              have H := H1
              clear H1
              by_cases c11 : a0 = 11
              · rw [if_pos c11] at H
                have c11b0 : (a0 == 11) = true := beq_iff_eq.mpr c11
                have c11b1 : (a0 != 11) = false := bne_eq_false_iff_eq.mpr c11
                clear c11
                replace H := Option.bind_eq_some_iff.mp H
                obtain ⟨t102, A120, H⟩ := H
                replace H : (some (t102, true)) = some (r1, r2) := H
                have A12 := Aside0.mk A120
                clear A120
                simp only [Option.some.injEq, Prod.mk.injEq] at H
                obtain ⟨rfl, rfl⟩ := H
                go_wp2_with (first | ((with_reducible refine gate_callee (f := 22) rfl ?_); refine goesL_ (some 36) rfl rfl Try.func22 (by kernel_rfl) rfl #[.bool (a1 == a2)] rfl (by (try simp only [List.map_toArray, List.map_cons, List.map_nil]); first | done | rfl | (simp only [List.length_drop, List.length_take]; rfl)) ?_; (with_reducible refine (eval_truth.calls (a1 == a2) t102 _ A12.out).mono ?_); rintro e w' ⟨rfl, ⟨nd, rfl⟩⟩; refine ⟨_, rfl, ?_⟩))
                go_ret2
                exact ⟨by first | rfl | (simp; done) | (simp [*]; done), by repeat (first | exact Drawn0.refl _ | apply Drawn0.step)⟩
              · rw [if_neg c11] at H
                have c11b0 : (a0 == 11) = false := beq_eq_false_iff_ne.mpr c11
                have c11b1 : (a0 != 11) = true := bne_iff_ne.mpr c11
                by_cases c13 : a0 = 12
                · rw [if_pos c13] at H
                  have c13b0 : (a0 == 12) = true := beq_iff_eq.mpr c13
                  have c13b1 : (a0 != 12) = false := bne_eq_false_iff_eq.mpr c13
                  clear c13
                  replace H := Option.bind_eq_some_iff.mp H
                  obtain ⟨t103, A140, H⟩ := H
                  replace H : (some (t103, true)) = some (r1, r2) := H
                  have A14 := Aside0.mk A140
                  clear A140
                  simp only [Option.some.injEq, Prod.mk.injEq] at H
                  obtain ⟨rfl, rfl⟩ := H
                  go_wp2_with (first | ((with_reducible refine gate_callee (f := 22) rfl ?_); refine goesL_ (some 42) rfl rfl Try.func22 (by kernel_rfl) rfl #[.bool (a1 != a2)] rfl (by (try simp only [List.map_toArray, List.map_cons, List.map_nil]); first | done | rfl | (simp only [List.length_drop, List.length_take]; rfl)) ?_; (with_reducible refine (eval_truth.calls (a1 != a2) t103 _ A14.out).mono ?_); rintro e w' ⟨rfl, ⟨nd, rfl⟩⟩; refine ⟨_, rfl, ?_⟩))
                  go_ret2
                  exact ⟨by first | rfl | (simp; done) | (simp [*]; done), by repeat (first | exact Drawn0.refl _ | apply Drawn0.step)⟩
                · rw [if_neg c13] at H
                  have c13b0 : (a0 == 12) = false := beq_eq_false_iff_ne.mpr c13
                  have c13b1 : (a0 != 12) = true := bne_iff_ne.mpr c13
                  by_cases c15 : a0 = 13
                  · rw [if_pos c15] at H
                    have c15b0 : (a0 == 13) = true := beq_iff_eq.mpr c15
                    have c15b1 : (a0 != 13) = false := bne_eq_false_iff_eq.mpr c15
                    clear c15
                    replace H := Option.bind_eq_some_iff.mp H
                    obtain ⟨t104, A160, H⟩ := H
                    replace H : (some (t104, true)) = some (r1, r2) := H
                    have A16 := Aside0.mk A160
                    clear A160
                    simp only [Option.some.injEq, Prod.mk.injEq] at H
                    obtain ⟨rfl, rfl⟩ := H
                    go_wp2_with (first | ((with_reducible refine gate_callee (f := 22) rfl ?_); refine goesL_ (some 48) rfl rfl Try.func22 (by kernel_rfl) rfl #[.bool (decide (a1 < a2))] rfl (by (try simp only [List.map_toArray, List.map_cons, List.map_nil]); first | done | rfl | (simp only [List.length_drop, List.length_take]; rfl)) ?_; (with_reducible refine (eval_truth.calls (decide (a1 < a2)) t104 _ A16.out).mono ?_); rintro e w' ⟨rfl, ⟨nd, rfl⟩⟩; refine ⟨_, rfl, ?_⟩))
                    go_ret2
                    exact ⟨by first | rfl | (simp; done) | (simp [*]; done), by repeat (first | exact Drawn0.refl _ | apply Drawn0.step)⟩
                  · rw [if_neg c15] at H
                    have c15b0 : (a0 == 13) = false := beq_eq_false_iff_ne.mpr c15
                    have c15b1 : (a0 != 13) = true := bne_iff_ne.mpr c15
                    by_cases c17 : a0 = 14
                    · rw [if_pos c17] at H
                      have c17b0 : (a0 == 14) = true := beq_iff_eq.mpr c17
                      have c17b1 : (a0 != 14) = false := bne_eq_false_iff_eq.mpr c17
                      clear c17
                      replace H := Option.bind_eq_some_iff.mp H
                      obtain ⟨t105, A180, H⟩ := H
                      replace H : (some (t105, true)) = some (r1, r2) := H
                      have A18 := Aside0.mk A180
                      clear A180
                      simp only [Option.some.injEq, Prod.mk.injEq] at H
                      obtain ⟨rfl, rfl⟩ := H
                      go_wp2_with (first | ((with_reducible refine gate_callee (f := 22) rfl ?_); refine goesL_ (some 54) rfl rfl Try.func22 (by kernel_rfl) rfl #[.bool (decide (a1 ≤ a2))] rfl (by (try simp only [List.map_toArray, List.map_cons, List.map_nil]); first | done | rfl | (simp only [List.length_drop, List.length_take]; rfl)) ?_; (with_reducible refine (eval_truth.calls (decide (a1 ≤ a2)) t105 _ A18.out).mono ?_); rintro e w' ⟨rfl, ⟨nd, rfl⟩⟩; refine ⟨_, rfl, ?_⟩))
                      go_ret2
                      exact ⟨by first | rfl | (simp; done) | (simp [*]; done), by repeat (first | exact Drawn0.refl _ | apply Drawn0.step)⟩
                    · rw [if_neg c17] at H
                      have c17b0 : (a0 == 14) = false := beq_eq_false_iff_ne.mpr c17
                      have c17b1 : (a0 != 14) = true := bne_iff_ne.mpr c17
                      by_cases c19 : a0 = 15
                      · rw [if_pos c19] at H
                        have c19b0 : (a0 == 15) = true := beq_iff_eq.mpr c19
                        have c19b1 : (a0 != 15) = false := bne_eq_false_iff_eq.mpr c19
                        clear c19
                        replace H := Option.bind_eq_some_iff.mp H
                        obtain ⟨t106, A200, H⟩ := H
                        replace H : (some (t106, true)) = some (r1, r2) := H
                        have A20 := Aside0.mk A200
                        clear A200
                        simp only [Option.some.injEq, Prod.mk.injEq] at H
                        obtain ⟨rfl, rfl⟩ := H
                        go_wp2_with (first | ((with_reducible refine gate_callee (f := 22) rfl ?_); refine goesL_ (some 60) rfl rfl Try.func22 (by kernel_rfl) rfl #[.bool (decide (a1 > a2))] rfl (by (try simp only [List.map_toArray, List.map_cons, List.map_nil]); first | done | rfl | (simp only [List.length_drop, List.length_take]; rfl)) ?_; (with_reducible refine (eval_truth.calls (decide (a1 > a2)) t106 _ A20.out).mono ?_); rintro e w' ⟨rfl, ⟨nd, rfl⟩⟩; refine ⟨_, rfl, ?_⟩))
                        go_ret2
                        exact ⟨by first | rfl | (simp; done) | (simp [*]; done), by repeat (first | exact Drawn0.refl _ | apply Drawn0.step)⟩
                      · rw [if_neg c19] at H
                        have c19b0 : (a0 == 15) = false := beq_eq_false_iff_ne.mpr c19
                        have c19b1 : (a0 != 15) = true := bne_iff_ne.mpr c19
                        by_cases c21 : a0 = 16
                        · rw [if_pos c21] at H
                          have c21b0 : (a0 == 16) = true := beq_iff_eq.mpr c21
                          have c21b1 : (a0 != 16) = false := bne_eq_false_iff_eq.mpr c21
                          clear c21
                          replace H := Option.bind_eq_some_iff.mp H
                          obtain ⟨t107, A220, H⟩ := H
                          replace H : (some (t107, true)) = some (r1, r2) := H
                          have A22 := Aside0.mk A220
                          clear A220
                          simp only [Option.some.injEq, Prod.mk.injEq] at H
                          obtain ⟨rfl, rfl⟩ := H
                          go_wp2_with (first | ((with_reducible refine gate_callee (f := 22) rfl ?_); refine goesL_ (some 66) rfl rfl Try.func22 (by kernel_rfl) rfl #[.bool (decide (a1 ≥ a2))] rfl (by (try simp only [List.map_toArray, List.map_cons, List.map_nil]); first | done | rfl | (simp only [List.length_drop, List.length_take]; rfl)) ?_; (with_reducible refine (eval_truth.calls (decide (a1 ≥ a2)) t107 _ A22.out).mono ?_); rintro e w' ⟨rfl, ⟨nd, rfl⟩⟩; refine ⟨_, rfl, ?_⟩))
                          go_ret2
                          exact ⟨by first | rfl | (simp; done) | (simp [*]; done), by repeat (first | exact Drawn0.refl _ | apply Drawn0.step)⟩
                        · rw [if_neg c21] at H
                          have c21b0 : (a0 == 16) = false := beq_eq_false_iff_ne.mpr c21
                          have c21b1 : (a0 != 16) = true := bne_iff_ne.mpr c21
                          by_cases c23 : a0 = 17
                          · rw [if_pos c23] at H
                            have c23b0 : (a0 == 17) = true := beq_iff_eq.mpr c23
                            have c23b1 : (a0 != 17) = false := bne_eq_false_iff_eq.mpr c23
                            clear c23
                            by_cases c24 : a1 = 0
                            · rw [if_pos c24] at H
                              have c24b0 : (a1 == 0) = true := beq_iff_eq.mpr c24
                              have c24b1 : (a1 != 0) = false := bne_eq_false_iff_eq.mpr c24
                              clear c24
                              replace H := Option.bind_eq_some_iff.mp H
                              obtain ⟨t108, A250, H⟩ := H
                              replace H : (some (t108, true)) = some (r1, r2) := H
                              have A25 := Aside0.mk A250
                              clear A250
                              simp only [Option.some.injEq, Prod.mk.injEq] at H
                              obtain ⟨rfl, rfl⟩ := H
                              go_wp2_with (first | ((with_reducible refine gate_callee (f := 22) rfl ?_); refine goesL_ (some 75) rfl rfl Try.func22 (by kernel_rfl) rfl #[.bool false] rfl (by (try simp only [List.map_toArray, List.map_cons, List.map_nil]); first | done | rfl | (simp only [List.length_drop, List.length_take]; rfl)) ?_; (with_reducible refine (eval_truth.calls false t108 _ A25.out).mono ?_); rintro e w' ⟨rfl, ⟨nd, rfl⟩⟩; refine ⟨_, rfl, ?_⟩))
                              go_ret2
                              exact ⟨by first | rfl | (simp; done) | (simp [*]; done), by repeat (first | exact Drawn0.refl _ | apply Drawn0.step)⟩
                            · rw [if_neg c24] at H
                              have c24b0 : (a1 == 0) = false := beq_eq_false_iff_ne.mpr c24
                              have c24b1 : (a1 != 0) = true := bne_iff_ne.mpr c24
                              replace H := Option.bind_eq_some_iff.mp H
                              obtain ⟨t109, A260, H⟩ := H
                              replace H : (some (t109, true)) = some (r1, r2) := H
                              have A26 := Aside0.mk A260
                              clear A260
                              simp only [Option.some.injEq, Prod.mk.injEq] at H
                              obtain ⟨rfl, rfl⟩ := H
                              go_wp2_with (first | ((with_reducible refine gate_callee (f := 22) rfl ?_); refine goesL_ (some 75) rfl rfl Try.func22 (by kernel_rfl) rfl #[.bool (a2 != 0)] rfl (by (try simp only [List.map_toArray, List.map_cons, List.map_nil]); first | done | rfl | (simp only [List.length_drop, List.length_take]; rfl)) ?_; (with_reducible refine (eval_truth.calls (a2 != 0) t109 _ A26.out).mono ?_); rintro e w' ⟨rfl, ⟨nd, rfl⟩⟩; refine ⟨_, rfl, ?_⟩))
                              go_ret2
                              exact ⟨by first | rfl | (simp; done) | (simp [*]; done), by repeat (first | exact Drawn0.refl _ | apply Drawn0.step)⟩
                          · rw [if_neg c23] at H
                            have c23b0 : (a0 == 17) = false := beq_eq_false_iff_ne.mpr c23
                            have c23b1 : (a0 != 17) = true := bne_iff_ne.mpr c23
                            by_cases c27 : a0 = 18
                            · rw [if_pos c27] at H
                              have c27b0 : (a0 == 18) = true := beq_iff_eq.mpr c27
                              have c27b1 : (a0 != 18) = false := bne_eq_false_iff_eq.mpr c27
                              clear c27
                              by_cases c28 : a1 = 0
                              · rw [if_pos c28] at H
                                have c28b0 : (a1 == 0) = true := beq_iff_eq.mpr c28
                                have c28b1 : (a1 != 0) = false := bne_eq_false_iff_eq.mpr c28
                                clear c28
                                replace H := Option.bind_eq_some_iff.mp H
                                obtain ⟨t110, A290, H⟩ := H
                                replace H : (some (t110, true)) = some (r1, r2) := H
                                have A29 := Aside0.mk A290
                                clear A290
                                simp only [Option.some.injEq, Prod.mk.injEq] at H
                                obtain ⟨rfl, rfl⟩ := H
                                go_wp2_with (first | ((with_reducible refine gate_callee (f := 22) rfl ?_); refine goesL_ (some 84) rfl rfl Try.func22 (by kernel_rfl) rfl #[.bool (a2 != 0)] rfl (by (try simp only [List.map_toArray, List.map_cons, List.map_nil]); first | done | rfl | (simp only [List.length_drop, List.length_take]; rfl)) ?_; (with_reducible refine (eval_truth.calls (a2 != 0) t110 _ A29.out).mono ?_); rintro e w' ⟨rfl, ⟨nd, rfl⟩⟩; refine ⟨_, rfl, ?_⟩))
                                go_ret2
                                exact ⟨by first | rfl | (simp; done) | (simp [*]; done), by repeat (first | exact Drawn0.refl _ | apply Drawn0.step)⟩
                              · rw [if_neg c28] at H
                                have c28b0 : (a1 == 0) = false := beq_eq_false_iff_ne.mpr c28
                                have c28b1 : (a1 != 0) = true := bne_iff_ne.mpr c28
                                replace H := Option.bind_eq_some_iff.mp H
                                obtain ⟨t111, A300, H⟩ := H
                                replace H : (some (t111, true)) = some (r1, r2) := H
                                have A30 := Aside0.mk A300
                                clear A300
                                simp only [Option.some.injEq, Prod.mk.injEq] at H
                                obtain ⟨rfl, rfl⟩ := H
                                go_wp2_with (first | ((with_reducible refine gate_callee (f := 22) rfl ?_); refine goesL_ (some 84) rfl rfl Try.func22 (by kernel_rfl) rfl #[.bool true] rfl (by (try simp only [List.map_toArray, List.map_cons, List.map_nil]); first | done | rfl | (simp only [List.length_drop, List.length_take]; rfl)) ?_; (with_reducible refine (eval_truth.calls true t111 _ A30.out).mono ?_); rintro e w' ⟨rfl, ⟨nd, rfl⟩⟩; refine ⟨_, rfl, ?_⟩))
                                go_ret2
                                exact ⟨by first | rfl | (simp; done) | (simp [*]; done), by repeat (first | exact Drawn0.refl _ | apply Drawn0.step)⟩
                            · rw [if_neg c27] at H
                              have c27b0 : (a0 == 18) = false := beq_eq_false_iff_ne.mpr c27
                              have c27b1 : (a0 != 18) = true := bne_iff_ne.mpr c27
                              simp only [Option.some.injEq, Prod.mk.injEq] at H
                              obtain ⟨rfl, rfl⟩ := H
                              go_wp2
                              go_ret2
                              exact ⟨by first | rfl | (simp; done) | (simp [*]; done), by repeat (first | exact Drawn0.refl _ | apply Drawn0.step)⟩

/-! ### interleavelaw05_awake: function 13 -/
def interleavelaw05_awake.f (k : Nat)  : Option (Bool) := (eval_Binary.f k 6 2 3).bind fun bt112 => (if bt112.1 = 5 then (some bt112.2) else (some false))
theorem interleavelaw05_awake.mono : ∀ k, LeO (interleavelaw05_awake.f k ) (interleavelaw05_awake.f (k + 1) ) := by
  intro  k
  unfold interleavelaw05_awake.f
  repeat' first
      | (with_reducible exact eval_Binary.mono _ _ _ _)
      | (with_reducible exact LeO.refl _)
      | (with_reducible exact LeO.none _)
      | (with_reducible refine LeO.ite ?_ ?_)
      | (with_reducible refine LeO.bind ?_ (fun _ => ?_))
      | exact eval_Binary.mono _ _ _ _
      | exact LeO.none _
      | refine LeO.ite ?_ ?_
      | refine LeO.bind ?_ (fun _ => ?_)
set_option maxHeartbeats 8000000 in
set_option maxRecDepth 100000 in
theorem interleavelaw05_awake.calls (k : Nat)  (r : Bool) (w : World) (h : interleavelaw05_awake.f k  = some r) :
    Calls Try.prog 13 #[] w fun e w' => e = .returned (.bool r) ∧ Drawn0 w w' := by
  have H : ((eval_Binary.f k 6 2 3).bind fun bt112 => (if bt112.1 = 5 then (some bt112.2) else (some false))) = some r := h
  clear h
  replace H := Option.bind_eq_some_iff.mp H
  obtain ⟨⟨t112, t113⟩, A10, H⟩ := H
  replace H : (if t112 = 5 then (some t113) else (some false)) = some r := H
  have A1 := Aside0.mk A10
  clear A10
  by_cases c2 : t112 = 5
  · rw [if_pos c2] at H
    have c2b0 : (t112 == 5) = true := beq_iff_eq.mpr c2
    have c2b1 : (t112 != 5) = false := bne_eq_false_iff_eq.mpr c2
    clear c2
    obtain rfl := Option.some.inj H
    go_enter Try.func13, Try.ntmps13
    go_wp2_with (first | ((with_reducible refine gate_callee (f := 10) rfl ?_); refine goesL_ (some 4) rfl rfl Try.func10 (by kernel_rfl) rfl #[.int .i64 6, .int .i64 2, .int .i64 3] rfl (by (try simp only [List.map_toArray, List.map_cons, List.map_nil]); first | done | rfl | (simp only [List.length_drop, List.length_take]; rfl)) ?_; (with_reducible refine (eval_Binary.calls k 6 2 3 t112 t113 _ A1.out).mono ?_); rintro e w' ⟨rfl, ⟨nd, rfl⟩⟩; refine ⟨_, rfl, ?_⟩))
    go_ret
    exact ⟨by first | rfl | (simp; done) | (simp [*]; done), by repeat (first | exact Drawn0.refl _ | apply Drawn0.step)⟩
  · rw [if_neg c2] at H
    have c2b0 : (t112 == 5) = false := beq_eq_false_iff_ne.mpr c2
    have c2b1 : (t112 != 5) = true := bne_iff_ne.mpr c2
    obtain rfl := Option.some.inj H
    go_enter Try.func13, Try.ntmps13
    go_wp2_with (first | ((with_reducible refine gate_callee (f := 10) rfl ?_); refine goesL_ (some 4) rfl rfl Try.func10 (by kernel_rfl) rfl #[.int .i64 6, .int .i64 2, .int .i64 3] rfl (by (try simp only [List.map_toArray, List.map_cons, List.map_nil]); first | done | rfl | (simp only [List.length_drop, List.length_take]; rfl)) ?_; (with_reducible refine (eval_Binary.calls k 6 2 3 t112 t113 _ A1.out).mono ?_); rintro e w' ⟨rfl, ⟨nd, rfl⟩⟩; refine ⟨_, rfl, ?_⟩))
    go_ret
    exact ⟨by first | rfl | (simp; done) | (simp [*]; done), by repeat (first | exact Drawn0.refl _ | apply Drawn0.step)⟩

/-- A state of type 49 at block g of W; what its slices lead to came in by w0. -/
def IsS49 (w0 W : World) (g : Nat) (f0 : List Int) (f1 : Int) : Prop := ∃ A0 c0, W.heap[g]? = some (.cells #[.slice A0 f0.length c0, .int .i64 f1] 49 (0, 0)) ∧ w0.heap.size ≤ g ∧ Kd.C (Kd.int .u8) w0 A0 f0.length f0
theorem IsS49.grown {w0 W : World} {g : Nat} {f0 : List Int} {f1 : Int} {W1 : World} {row : Option Nat} (h : IsS49 w0 W g f0 f1) (hw : W.grownBy W1 row) (hne : some g ≠ row) : IsS49 w0 W1 g f0 f1 := by
  obtain ⟨A0, c0, hb, hg, hr0⟩ := h
  exact ⟨A0, c0, blk_grown hb hw hne, hg, hr0⟩
theorem IsS49.own_neN {w0 W : World} {g : Nat} {f0 : List Int} {f1 : Int} {α : Type} {d : Kd α} {e : Nat} {base : Nat} {ok : Nat → Prop} {v : Value} {xs : List α} (h : IsS49 w0 W g f0 f1) (ho : Kd.N d e W base ok v xs) (ht : e ≠ 49) : some g ≠ v.ownBlock := by
  obtain ⟨A0, c0, hb, hg, hr0⟩ := h
  exact Kd.N_ne ho hb ht
theorem IsS49.fresh {w0 W : World} {g : Nat} {f0 : List Int} {f1 : Int} (h : IsS49 w0 W g f0 f1) : ∀ k, W.heap.size ≤ k → k ≠ g := by
  obtain ⟨A0, c0, hb, hg, hr0⟩ := h
  exact Kd.freshB hb
theorem IsS49.kept {w0 W : World} {g : Nat} {f0 : List Int} {f1 : Int} {W1 : World} {S : Nat → Prop} (h : IsS49 w0 W g f0 f1) (hk : Kept W W1 S) (hne : ¬ S g) : IsS49 w0 W1 g f0 f1 := by
  obtain ⟨A0, c0, hb, hg, hr0⟩ := h
  exact ⟨A0, c0, blk_kept hb hk hne, hg, hr0⟩
theorem IsS49.below {w0 W : World} {g : Nat} {f0 : List Int} {f1 : Int} {W1 : World} (h : IsS49 w0 W g f0 f1) (hw : Below W.heap.size W W1) : IsS49 w0 W1 g f0 f1 := h.grown (grown_of_below hw none) (by simp)
theorem IsS49.alloc {w0 W : World} {g : Nat} {f0 : List Int} {f1 : Int} (h : IsS49 w0 W g f0 f1) (o : Obj) : IsS49 w0 (W.alloc o) g f0 f1 := h.below (below_alloc (Below.refl _ _) o)
theorem IsS49.drewN {w0 W : World} {g : Nat} {f0 : List Int} {f1 : Int} (h : IsS49 w0 W g f0 f1) (m : Nat) : IsS49 w0 (W.drewN m) g f0 f1 := h
theorem IsS49.drew {w0 W : World} {g : Nat} {f0 : List Int} {f1 : Int} (h : IsS49 w0 W g f0 f1) : IsS49 w0 W.drew g f0 f1 := h
theorem IsS49.at_ {w0 W : World} {g : Nat} {f0 : List Int} {f1 : Int} {w' : World} {m : Nat} (hq : W.drewN m = w') (h : IsS49 w0 W g f0 f1) : IsS49 w0 w' g f0 f1 := by subst hq; exact IsS49.drewN h m
theorem IsS49.apart {w0 W : World} {g : Nat} {f0 : List Int} {f1 : Int} {α : Type} {d : Kd α} {e : Nat} {base : Nat} {ok : Nat → Prop} {v : Value} {xs : List α} (h : IsS49 w0 W g f0 f1) (ho : d.R e W base ok v xs) (ht : ∀ q, q ∈ e :: d.E → q ≠ 49) : d.R e W base (fun k => ok k ∧ k ≠ g) v xs := by
  obtain ⟨A0, c0, hb, hg, hr0⟩ := h
  exact Kd.R_types ho hb ht
theorem IsS49.own_ne {w0 W : World} {g : Nat} {f0 : List Int} {f1 : Int} {α : Type} {d : Kd α} {e : Nat} {base : Nat} {ok : Nat → Prop} {v : Value} {xs : List α} (h : IsS49 w0 W g f0 f1) (ho : d.R e W base ok v xs) (ht : e ≠ 49) : some g ≠ v.ownBlock := by
  obtain ⟨A0, c0, hb, hg, hr0⟩ := h
  exact Kd.R_ne ho hb ht
theorem IsS49.apartQ {w0 W : World} {g : Nat} {f0 : List Int} {f1 : Int} {α : Type} {d : Kd α} {e : Nat} {base : Nat} {ok : Nat → Prop} {v : Value} {xs : List α} (h : IsS49 w0 W g f0 f1) (ho : d.Q e W base ok v xs) (ht : ∀ q, q ∈ e :: d.E → q ≠ 49) : d.Q e W base (fun k => ok k ∧ k ≠ g) v xs := by
  obtain ⟨A0, c0, hb, hg, hr0⟩ := h
  exact Kd.Q_types ho hb ht
theorem IsS49.own_neQ {w0 W : World} {g : Nat} {f0 : List Int} {f1 : Int} {α : Type} {d : Kd α} {e : Nat} {base : Nat} {ok : Nat → Prop} {v : Value} {xs : List α} (h : IsS49 w0 W g f0 f1) (ho : d.Q e W base ok v xs) (ht : e ≠ 49) : some g ≠ v.ownBlock := by
  obtain ⟨A0, c0, hb, hg, hr0⟩ := h
  exact Kd.Q_ne ho hb ht
theorem IsS49.apartS {w0 W : World} {g : Nat} {f0 : List Int} {f1 : Int} {α : Type} {d : Kd α} {e : Nat} {base : Nat} {ok : Nat → Prop} {v : Value} {xs : List α} (h : IsS49 w0 W g f0 f1) (ho : d.S e W base ok v xs) (ht : ∀ q, q ∈ e :: d.E → q ≠ 49) : d.S e W base (fun k => ok k ∧ k ≠ g) v xs := by
  obtain ⟨A0, c0, hb, hg, hr0⟩ := h
  exact Kd.S_types ho hb ht
theorem IsS49.own_neS {w0 W : World} {g : Nat} {f0 : List Int} {f1 : Int} {α : Type} {d : Kd α} {e : Nat} {base : Nat} {ok : Nat → Prop} {v : Value} {xs : List α} (h : IsS49 w0 W g f0 f1) (ho : d.S e W base ok v xs) (ht : e ≠ 49) : some g ≠ v.ownBlock := by
  obtain ⟨A0, c0, hb, hg, hr0⟩ := h
  exact Kd.S_ne ho hb ht
theorem IsS49.lt {w0 W : World} {g : Nat} {f0 : List Int} {f1 : Int} (h : IsS49 w0 W g f0 f1) : g < W.heap.size := by
  obtain ⟨A0, c0, hb, hg, hr0⟩ := h
  exact blk_lt hb
theorem IsS49.ge {w0 W : World} {g : Nat} {f0 : List Int} {f1 : Int} (h : IsS49 w0 W g f0 f1) : w0.heap.size ≤ g := by
  obtain ⟨A0, c0, hb, hg, hr0⟩ := h
  exact hg
theorem IsS49.ne_blk {w0 W : World} {g : Nat} {f0 : List Int} {f1 : Int} {a : Nat} {cs : Array Value} {t : TypeId} {fr : Nat × Nat} (h : IsS49 w0 W g f0 f1) (hb2 : W.heap[a]? = some (.cells cs t fr)) (ht : t ≠ 49) : g ≠ a := by
  obtain ⟨A0, c0, hb, hg, hr0⟩ := h
  rintro rfl
  rw [hb] at hb2
  injection hb2 with hb2
  injection hb2 with _ ht2
  exact ht ht2.symm
theorem IsS49.far {w0 W : World} {g : Nat} {f0 : List Int} {f1 : Int} {p : Addr} (h : IsS49 w0 W g f0 f1) (hne : g ≠ p.block) (u : Value) : IsS49 w0 (W.setCell p u) g f0 f1 := by
  obtain ⟨A0, c0, hb, hg, hr0⟩ := h
  exact ⟨A0, c0, blk_far hb hne u, hg, hr0⟩
theorem cellS49_0 {W : World} {g : Nat} {A0 : Option Addr} {c0 : Nat} {f0 : List Int} {f1 : Int} (h : W.heap[g]? = some (.cells #[.slice A0 f0.length c0, .int .i64 f1] 49 (0, 0))) : W.cell? ⟨g, 0, none⟩ = some (.slice A0 f0.length c0) := (blk_cell h 0).trans rfl
theorem cellS49_1 {W : World} {g : Nat} {A0 : Option Addr} {c0 : Nat} {f0 : List Int} {f1 : Int} (h : W.heap[g]? = some (.cells #[.slice A0 f0.length c0, .int .i64 f1] 49 (0, 0))) : W.cell? ⟨g, 1, none⟩ = some (.int .i64 f1) := (blk_cell h 1).trans rfl
theorem IsS49.set_1 {w0 W : World} {g : Nat} {f0 : List Int} {f1 : Int} (h : IsS49 w0 W g f0 f1) (x : Int) : IsS49 w0 (W.setCell ⟨g, 1, none⟩ (.int .i64 x)) g f0 x := by
  obtain ⟨A0, c0, hb, hg, hr0⟩ := h
  exact ⟨A0, c0, by simpa using blk_set hb 1 (.int .i64 x), hg, hr0⟩
theorem IsS49.new (w0 W : World) (A0 : Option Addr) (c0 : Nat) (f0 : List Int) (f1 : Int) (hB : Below w0.heap.size w0 W) (hr0 : Kd.C (Kd.int .u8) w0 A0 f0.length f0) : IsS49 w0 (W.alloc (.cells #[.slice A0 f0.length c0, .int .i64 f1] 49)) W.heap.size f0 f1 := ⟨A0, c0, by simpa using heap_alloc_new W _, hB.size, hr0⟩

/-! ### interleavemade_Tape_Next: function 29 -/
def interleavemade_Tape_Next.f (s0_0 : List Int) (s0_1 : Int) (a1 : Int) : Option (Int × Int) := if s0_1 ≥ (s0_0.length : Int) then (some (0, s0_1)) else (if a1 < 1 then (some (0, s0_1)) else (if 0 ≤ (wrap64 ((wrap64 (s0_1 + 1)) - 1)) then (if (wrap64 ((wrap64 (s0_1 + 1)) - 1)) < (s0_0.length : Int) then (if a1 = 0 then (none) else (some (Int.tmod (wrap64 (rd s0_0 (wrap64 ((wrap64 (s0_1 + 1)) - 1)))) a1, wrap64 (s0_1 + 1)))) else (none)) else (none)))
set_option maxHeartbeats 8000000 in
set_option maxRecDepth 100000 in
theorem interleavemade_Tape_Next.calls (g : Nat) (s0_0 : List Int) (s0_1 : Int) (a1 : Int) (r1 : Int) (r2 : Int) (w0 w : World) (hI : IsS49 w0 w g s0_0 s0_1) (hB : Below w0.heap.size w0 w) (h : interleavemade_Tape_Next.f s0_0 s0_1 a1 = some (r1, r2)) :
    Calls Try.prog 29 #[.pointer (some ⟨g, 0, none⟩), .int .i64 a1] w fun e w' => e = .returned (.int .i64 r1) ∧ IsS49 w0 w' g s0_0 r2 ∧ Below w0.heap.size w0 w' ∧ KeepBut w w' g none := by
  have HI0 := Aside0.mk hI
  have HK := Aside0.mk (KeepBut.refl w g none)
  have HL := Aside0.mk hB.size
  clear hI
  have HW0 := Aside0.mk hB.size
  have HB := Aside0.mk hB
  clear hB
  have H : (if s0_1 ≥ (s0_0.length : Int) then (some (0, s0_1)) else (if a1 < 1 then (some (0, s0_1)) else (if 0 ≤ (wrap64 ((wrap64 (s0_1 + 1)) - 1)) then (if (wrap64 ((wrap64 (s0_1 + 1)) - 1)) < (s0_0.length : Int) then (if a1 = 0 then (none) else (some (Int.tmod (wrap64 (rd s0_0 (wrap64 ((wrap64 (s0_1 + 1)) - 1)))) a1, wrap64 (s0_1 + 1)))) else (none)) else (none)))) = some (r1, r2) := h
  clear h
  by_cases c3 : s0_1 ≥ (s0_0.length : Int)
  · rw [if_pos c3] at H
    have c3b0 : decide ((s0_0.length : Int) ≤ s0_1) = true := decide_eq_true c3
    clear c3
    simp only [Option.some.injEq, Prod.mk.injEq] at H
    obtain ⟨rfl, rfl⟩ := H
    obtain ⟨ASz4_0, cSz4_0, HGz4, hgz4, HSz4_0⟩ := HI0.out
    have hcz4_0 := cellS49_0 HGz4
    have hcz4_1 := cellS49_1 HGz4
    have hfz4_1 := blk_frozen HGz4 1
    clear HGz4 hgz4
    go_enter Try.func29, Try.ntmps29
    go_wp2
    repeat (go_quiet (fail); try go_wp2)
    go_ret
    exact ⟨by first | rfl | (simp [errW_none, errW_some] <;> rfl) | (simp [*, errW_none, errW_some] <;> rfl), by repeat (first | (with_reducible first | exact HI0.out | apply IsS49.alloc | apply IsS49.drewN | apply IsS49.drew | apply IsS49.set_1) | exact HI0.out), by repeat (first | (with_reducible first | exact HB.out | apply below_alloc | apply pw_below_drewN | apply below_drew1 | refine below_set ?_ (IsS49.ge HI0.out)) | exact HB.out), by repeat (first | (with_reducible first | exact HK.out | apply KeepBut.set_ | apply keep_drewN | apply keep_drew | apply keep_alloc) | exact HK.out)⟩
  · rw [if_neg c3] at H
    have c3b0 : decide ((s0_0.length : Int) ≤ s0_1) = false := decide_eq_false c3
    clear c3
    by_cases c5 : a1 < 1
    · rw [if_pos c5] at H
      have c5b0 : decide (a1 < 1) = true := decide_eq_true c5
      clear c5
      simp only [Option.some.injEq, Prod.mk.injEq] at H
      obtain ⟨rfl, rfl⟩ := H
      obtain ⟨ASz6_0, cSz6_0, HGz6, hgz6, HSz6_0⟩ := HI0.out
      have hcz6_0 := cellS49_0 HGz6
      have hcz6_1 := cellS49_1 HGz6
      have hfz6_1 := blk_frozen HGz6 1
      clear HGz6 hgz6
      go_enter Try.func29, Try.ntmps29
      go_wp2
      repeat (go_quiet (fail); try go_wp2)
      go_ret
      exact ⟨by first | rfl | (simp [errW_none, errW_some] <;> rfl) | (simp [*, errW_none, errW_some] <;> rfl), by repeat (first | (with_reducible first | exact HI0.out | apply IsS49.alloc | apply IsS49.drewN | apply IsS49.drew | apply IsS49.set_1) | exact HI0.out), by repeat (first | (with_reducible first | exact HB.out | apply below_alloc | apply pw_below_drewN | apply below_drew1 | refine below_set ?_ (IsS49.ge HI0.out)) | exact HB.out), by repeat (first | (with_reducible first | exact HK.out | apply KeepBut.set_ | apply keep_drewN | apply keep_drew | apply keep_alloc) | exact HK.out)⟩
    · rw [if_neg c5] at H
      have c5b0 : decide (a1 < 1) = false := decide_eq_false c5
      clear c5
      obtain ⟨ji7, hji7⟩ : ∃ j_ : Int, (wrap64 ((wrap64 (s0_1 + 1)) - 1)) = j_ := ⟨_, rfl⟩
      replace H : (if 0 ≤ (ji7) then (if (ji7) < (s0_0.length : Int) then (if a1 = 0 then (none) else (some (Int.tmod (wrap64 (rd s0_0 (ji7))) a1, wrap64 (s0_1 + 1)))) else (none)) else (none)) = some (r1, r2) := by first | (rw [hji7] at H; exact H) | (simp only [hji7] at H ⊢; exact H)
      have hji7w : (IntKind.i64.wrap ((wrap64 (s0_1 + 1)) - 1)) = ji7 := (i64_w _).trans hji7
      by_cases c8 : 0 ≤ (ji7)
      · rw [if_pos c8] at H
        have c8b0 : decide (0 ≤ (ji7)) = true := decide_eq_true c8
        clear c8
        by_cases c9 : (ji7) < (s0_0.length : Int)
        · rw [if_pos c9] at H
          have c9b0 : decide ((ji7) < (s0_0.length : Int)) = true := decide_eq_true c9
          clear c9
          by_cases c10 : a1 = 0
          · rw [if_pos c10] at H
            exact absurd H (by simp)
          · rw [if_neg c10] at H
            have c10b0 : (a1 == 0) = false := beq_eq_false_iff_ne.mpr c10
            have c10b1 : (a1 != 0) = true := bne_iff_ne.mpr c10
            simp only [Option.some.injEq, Prod.mk.injEq] at H
            obtain ⟨rfl, rfl⟩ := H
            obtain ⟨ASz11_0, cSz11_0, HGz11, hgz11, HSz11_0⟩ := HI0.out
            have hcz11_0 := cellS49_0 HGz11
            have hcz11_1 := cellS49_1 HGz11
            have hfz11_1 := blk_frozen HGz11 1
            clear HGz11 hgz11
            have p114 : 0 ≤ ((ji7) : Int) := of_decide_eq_true (by first | (with_reducible assumption) | assumption)
            have q114 : (ji7) < (s0_0.length : Int) := of_decide_eq_true (by first | (with_reducible assumption) | assumption)
            obtain ⟨ad114, e114, hx114_0⟩ := Kd.at_int HSz11_0 (ji7) p114 q114
            cases e114
            have hn114_0 : ad114.block ≠ g := Nat.ne_of_lt (Nat.lt_of_lt_of_le (by have := World.block_lt_of_cell? _ _ hx114_0; first | rwa [add_block] at this | exact this) (IsS49.ge HI0.out))
            replace hx114_0 := pw_cell_below HB.out hx114_0
            replace hx114_0 := (cell_far (p := ⟨g, 1, none⟩) (by first | (rw [add_block]; exact hn114_0) | (show (Addr.add _ _).block ≠ _; rw [add_block]; exact hn114_0) | exact hn114_0) (.int .i64 (wrap64 (s0_1 + 1)))).trans hx114_0
            (try have hy114_0 := fun (n_ : Nat) => (show (((w.drewN n_).setCell ⟨g, 1, none⟩ (.int .i64 (wrap64 (s0_1 + 1))))).cell? _ = some _ from hx114_0))
            clear hn114_0
            replace p114 := eq_true p114
            replace q114 := eq_true q114
            go_enter Try.func29, Try.ntmps29
            go_wp2
            repeat (go_quiet (fail); try go_wp2)
            go_ret
            exact ⟨by first | rfl | (simp [errW_none, errW_some] <;> rfl) | (simp only [← hji7]; first | rfl | (simp [errW_none, errW_some] <;> rfl)) | (simp [*, errW_none, errW_some] <;> rfl), by repeat (first | (with_reducible first | exact HI0.out | apply IsS49.alloc | apply IsS49.drewN | apply IsS49.drew | apply IsS49.set_1) | exact HI0.out), by repeat (first | (with_reducible first | exact HB.out | apply below_alloc | apply pw_below_drewN | apply below_drew1 | refine below_set ?_ (IsS49.ge HI0.out)) | exact HB.out), by repeat (first | (with_reducible first | exact HK.out | apply KeepBut.set_ | apply keep_drewN | apply keep_drew | apply keep_alloc) | exact HK.out)⟩
        · rw [if_neg c9] at H
          exact absurd H (by simp)
      · rw [if_neg c8] at H
        exact absurd H (by simp)

/-! ### interleavemade_name: function 30 -/
def interleavemade_name.f (a0 : ByteArray) : Option (Int × Int × ByteArray × (List (S36))) := some (2, 0, a0, ([] : List (S36)))
set_option maxHeartbeats 8000000 in
set_option maxRecDepth 100000 in
theorem interleavemade_name.calls (a0 : ByteArray) (r1 : Int) (r2 : Int) (r3 : ByteArray) (r4 : List (S36)) (w : World) (h : interleavemade_name.f a0 = some (r1, r2, r3, r4)) :
    Calls Try.prog 30 #[.string a0] w fun e w' => ∃ v3_ : Value, e = .returned (.agg #[.int .i64 r1, .int .i64 r2, .string r3, v3_]) ∧ Kd.R k36 36 w' w.heap.size (fun _ => True) v3_ r4 ∧ Below w.heap.size w w' := by
  have hu36 := Try.underlying36
  have HB := Aside0.mk (Below.refl w.heap.size w)
  have H : (some (2, 0, a0, ([] : List (S36)))) = some (r1, r2, r3, r4) := h
  clear h
  simp only [Option.some.injEq, Prod.mk.injEq] at H
  obtain ⟨rfl, rfl, rfl, rfl⟩ := H
  go_enter Try.func30, Try.ntmps30
  go_wp2_with (first | ((with_reducible refine gate_dst (N := 2) rfl ?_); refine box_event ?hg (N := 2) ?hd (cs := #[.int .i64 0, .int .i64 0, .string (⟨#[]⟩ : ByteArray), .slice none 0 0]) (t := 36) ?hr ?_; (case hd => rfl); (case hg => rfl); (case hr => first | (go_simp; done) | (go_simp; rfl)); intro gb115 hg w2 hbox hb; have n0_ := Aside0.mk (below_step (by repeat (first | (with_reducible first | exact HB.out | apply below_alloc | apply pw_below_drewN | apply below_drew1) | exact HB.out)) hb); have n1_ := Aside0.mk (hbox); have n2_ := Aside0.mk ((by rw [hg]; exact (below_size (by repeat (first | (with_reducible first | exact HB.out | apply below_alloc | apply pw_below_drewN | apply below_drew1) | exact HB.out))) : w.heap.size ≤ gb115)); have n3_ := Aside0.mk ((by rw [hg]; exact (below_size (by repeat (first | (with_reducible first | exact HB.out | apply below_alloc | apply pw_below_drewN | apply below_drew1) | exact HB.out))) : w.heap.size ≤ gb115)); clear HB; have HB := n0_; have BK115 := n1_; have GW115 := n2_; have GE115 := n3_; clear n0_ n1_ n2_ n3_; clear hb hbox hg; have hcz3_0 : w2.cell? ⟨gb115, 0, none⟩ = some (.int .i64 0) := (blk_cell BK115.out 0).trans rfl; have hcz3_1 : w2.cell? ⟨gb115, 1, none⟩ = some (.int .i64 0) := (blk_cell BK115.out 1).trans rfl; have hcz3_2 : w2.cell? ⟨gb115, 2, none⟩ = some (.string (⟨#[]⟩ : ByteArray)) := (blk_cell BK115.out 2).trans rfl; have hcz3_3 : w2.cell? ⟨gb115, 3, none⟩ = some (.slice none 0 0) := (blk_cell BK115.out 3).trans rfl; have hfz3_0 := blk_frozen BK115.out 0; have hfz3_1 := blk_frozen BK115.out 1; have hfz3_2 := blk_frozen BK115.out 2; have hfz3_3 := blk_frozen BK115.out 3))
  refine bodyPost_ret (results_cell_row rfl _ _ gb115 36 #[.int .i64 2, .int .i64 0, .string a0, .slice none 0 0] (0, 0) _ rfl (by (with_reducible repeat (first | refine blk_drewN ?_ _ | refine blk_drew ?_ | refine blk_alloc ?_ _)); refine blk_put (cs := #[.int .i64 2, .int .i64 0, .string a0, .slice none 0 0]) ?_ 3 _ rfl; (with_reducible repeat (first | refine blk_drewN ?_ _ | refine blk_drew ?_ | refine blk_alloc ?_ _)); refine blk_put (cs := #[.int .i64 2, .int .i64 0, .string (⟨#[]⟩ : ByteArray), .slice none 0 0]) ?_ 2 _ rfl; (with_reducible repeat (first | refine blk_drewN ?_ _ | refine blk_drew ?_ | refine blk_alloc ?_ _)); refine blk_put (cs := #[.int .i64 2, .int .i64 0, .string (⟨#[]⟩ : ByteArray), .slice none 0 0]) ?_ 1 _ rfl; (with_reducible repeat (first | refine blk_drewN ?_ _ | refine blk_drew ?_ | refine blk_alloc ?_ _)); refine blk_put (cs := #[.int .i64 0, .int .i64 0, .string (⟨#[]⟩ : ByteArray), .slice none 0 0]) ?_ 0 _ rfl; (with_reducible repeat (first | refine blk_drewN ?_ _ | refine blk_drew ?_ | refine blk_alloc ?_ _)); exact BK115.out) Try.underlying36 rfl (by kernel_rfl)) rfl ?_
  exact ⟨_, by first | rfl | (simp [errW_none, errW_some] <;> rfl) | (simp [*, errW_none, errW_some] <;> rfl), by first | exact Kd.R_nil _ _ _ _ _ | exact Kd.N_nil _ _ _ _ _ | exact Kd.V_nil _ _ _ _ _ | exact Kd.Q_nil _ _ _ _ _ | exact Kd.S_nil _ _ _ _ _, by repeat (first | (with_reducible first | exact HB.out | apply below_alloc | apply pw_below_drewN | apply below_drew1 | refine below_set ?_ GE115.out) | exact HB.out)⟩

/-! ### interleavemade_binary: function 31 -/
def interleavemade_binary.f (a0 : Int) (a1_0 : Int) (a1_1 : Int) (a1_2 : ByteArray) (l1_3 : List (S36)) (a2_0 : Int) (a2_1 : Int) (a2_2 : ByteArray) (l2_3 : List (S36)) : Option (Int × Int × ByteArray × (List (S36))) := some (a0, 0, (⟨#[]⟩ : ByteArray), (([(⟨a1_0, a1_1, a1_2, l1_3⟩ : S36), (⟨a2_0, a2_1, a2_2, l2_3⟩ : S36)] : List (S36))))
set_option maxHeartbeats 8000000 in
set_option maxRecDepth 100000 in
theorem interleavemade_binary.calls (a0 : Int) (a1_0 : Int) (a1_1 : Int) (a1_2 : ByteArray) (P1_3_ : Nat → Prop) (A1_3 : Option Addr) (c1_3 : Nat) (l1_3 : List (S36)) (a2_0 : Int) (a2_1 : Int) (a2_2 : ByteArray) (P2_3_ : Nat → Prop) (A2_3 : Option Addr) (c2_3 : Nat) (l2_3 : List (S36)) (r1 : Int) (r2 : Int) (r3 : ByteArray) (r4 : List (S36)) (w : World) (hs1_3 : Kd.V k36 36 w w.heap.size (fun k_ => P1_3_ k_) (.slice A1_3 l1_3.length c1_3) l1_3) (hs2_3 : Kd.V k36 36 w w.heap.size (fun k_ => P2_3_ k_) (.slice A2_3 l2_3.length c2_3) l2_3) (h : interleavemade_binary.f a0 a1_0 a1_1 a1_2 l1_3 a2_0 a2_1 a2_2 l2_3 = some (r1, r2, r3, r4)) :
    Calls Try.prog 31 #[.int .i64 a0, .agg #[.int .i64 a1_0, .int .i64 a1_1, .string a1_2, .slice A1_3 l1_3.length c1_3], .agg #[.int .i64 a2_0, .int .i64 a2_1, .string a2_2, .slice A2_3 l2_3.length c2_3]] w fun e w' => ∃ v3_ : Value, e = .returned (.agg #[.int .i64 r1, .int .i64 r2, .string r3, v3_]) ∧ Kd.N k36 36 w' w.heap.size (fun k_ => ((P1_3_ k_ ∨ P2_3_ k_) ∨ w.heap.size ≤ k_)) v3_ r4 ∧ Below w.heap.size w w' := by
  have hu36 := Try.underlying36
  have HO1_3 := Aside0.mk (show Kd.V k36 36 w w.heap.size (fun k_ => ((P1_3_ k_ ∨ P2_3_ k_) ∨ w.heap.size ≤ k_)) (.slice A1_3 l1_3.length c1_3) l1_3 from Kd.V_mono hs1_3 (fun k_ hk => .inl (.inl hk)))
  have HO2_3 := Aside0.mk (show Kd.V k36 36 w w.heap.size (fun k_ => ((P1_3_ k_ ∨ P2_3_ k_) ∨ w.heap.size ≤ k_)) (.slice A2_3 l2_3.length c2_3) l2_3 from Kd.V_mono hs2_3 (fun k_ hk => .inl (.inr hk)))
  have HB := Aside0.mk (Below.refl w.heap.size w)
  have H : (some (a0, 0, (⟨#[]⟩ : ByteArray), (([(⟨a1_0, a1_1, a1_2, l1_3⟩ : S36), (⟨a2_0, a2_1, a2_2, l2_3⟩ : S36)] : List (S36))))) = some (r1, r2, r3, r4) := h
  clear h
  obtain ⟨y119, hy119⟩ : ∃ y_ : List (S36), y_ = (([(⟨a1_0, a1_1, a1_2, l1_3⟩ : S36), (⟨a2_0, a2_1, a2_2, l2_3⟩ : S36)] : List (S36))) := ⟨_, rfl⟩
  replace H : (some (a0, 0, (⟨#[]⟩ : ByteArray), y119)) = some (r1, r2, r3, r4) := by first | (rw [hy119]; with_reducible exact H) | (have H2_ := (Option.bind_some _ _).symm.trans H; rw [hy119]; with_reducible exact H2_) | (have H2_ := (Option.bind_some _ _).symm.trans H; with_reducible exact H2_) | with_reducible exact H | (rw [hy119]; exact H) | exact H
  have Ny119 := Aside0.mk hy119
  clear hy119
  simp only [Option.some.injEq, Prod.mk.injEq] at H
  obtain ⟨rfl, rfl, rfl, rfl⟩ := H
  go_enter Try.func31, Try.ntmps31
  go_wp2_with (first | ((with_reducible refine gate_dst (N := 4) rfl ?_); refine box_event ?hg (N := 4) ?hd (cs := #[.int .i64 a1_0, .int .i64 a1_1, .string a1_2, .slice A1_3 l1_3.length c1_3]) (t := 36) ?hr ?_; (case hd => rfl); (case hg => rfl); (case hr => first | (go_simp; done) | (go_simp; rfl)); intro gb116 hg w4 hbox hb; have n0_ := Aside0.mk (Kd.V_below (Kd.V_elderB (by (with_reducible repeat (first | apply Kd.V_alloc | apply Kd.V_drewN | apply Kd.V_drew)); exact HO1_3.out) gb116 (Nat.le_of_eq hg.symm)) hb); have n1_ := Aside0.mk (Kd.V_below (Kd.V_elderB (by (with_reducible repeat (first | apply Kd.V_alloc | apply Kd.V_drewN | apply Kd.V_drew)); exact HO2_3.out) gb116 (Nat.le_of_eq hg.symm)) hb); have n2_ := Aside0.mk (below_step (by repeat (first | (with_reducible first | exact HB.out | apply below_alloc | apply pw_below_drewN | apply below_drew1) | exact HB.out)) hb); have n3_ := Aside0.mk (hbox); have n4_ := Aside0.mk ((by rw [hg]; exact (below_size (by repeat (first | (with_reducible first | exact HB.out | apply below_alloc | apply pw_below_drewN | apply below_drew1) | exact HB.out))) : w.heap.size ≤ gb116)); have n5_ := Aside0.mk ((by rw [hg]; exact (below_size (by repeat (first | (with_reducible first | exact HB.out | apply below_alloc | apply pw_below_drewN | apply below_drew1) | exact HB.out))) : w.heap.size ≤ gb116)); clear HO1_3; clear HO2_3; clear HB; have HO1_3 := n0_; have HO2_3 := n1_; have HB := n2_; have BK116 := n3_; have GW116 := n4_; have GE116 := n5_; clear n0_ n1_ n2_ n3_ n4_ n5_; clear hb hbox hg) | ((with_reducible refine gate_dst (N := 5) rfl ?_); refine box_event ?hg (N := 5) ?hd (cs := #[.int .i64 a2_0, .int .i64 a2_1, .string a2_2, .slice A2_3 l2_3.length c2_3]) (t := 36) ?hr ?_; (case hd => rfl); (case hg => rfl); (case hr => first | (go_simp; done) | (go_simp; rfl)); intro gb117 hg w5 hbox hb; have n0_ := Aside0.mk (Kd.V_below (Kd.V_elderB (by (with_reducible repeat (first | apply Kd.V_alloc | apply Kd.V_drewN | apply Kd.V_drew)); exact HO1_3.out) gb117 (Nat.le_of_eq hg.symm)) hb); have n1_ := Aside0.mk (Kd.V_below (Kd.V_elderB (by (with_reducible repeat (first | apply Kd.V_alloc | apply Kd.V_drewN | apply Kd.V_drew)); exact HO2_3.out) gb117 (Nat.le_of_eq hg.symm)) hb); have n2_ := Aside0.mk (blk_below (g := gb116) (o := .cells #[.int .i64 a1_0, .int .i64 a1_1, .string a1_2, .slice A1_3 l1_3.length c1_3] 36 (0, 0)) (by (with_reducible repeat (first | refine blk_drewN ?_ _ | refine blk_drew ?_ | refine blk_alloc ?_ _)); exact BK116.out) hb); have n3_ := Aside0.mk (below_step (by repeat (first | (with_reducible first | exact HB.out | apply below_alloc | apply pw_below_drewN | apply below_drew1 | refine below_set ?_ GE116.out) | exact HB.out)) hb); have n4_ := Aside0.mk (hbox); have n5_ := Aside0.mk ((by rw [hg]; exact (below_size (by repeat (first | (with_reducible first | exact HB.out | apply below_alloc | apply pw_below_drewN | apply below_drew1 | refine below_set ?_ GE116.out) | exact HB.out))) : w.heap.size ≤ gb117)); have n6_ := Aside0.mk ((by rw [hg]; exact (below_size (by repeat (first | (with_reducible first | exact HB.out | apply below_alloc | apply pw_below_drewN | apply below_drew1 | refine below_set ?_ GE116.out) | exact HB.out))) : w.heap.size ≤ gb117)); have n7_ := Aside0.mk ((by rw [hg]; exact Nat.ne_of_lt (blk_lt (g := gb116) (o := .cells #[.int .i64 a1_0, .int .i64 a1_1, .string a1_2, .slice A1_3 l1_3.length c1_3] 36 (0, 0)) (by (with_reducible repeat (first | refine blk_drewN ?_ _ | refine blk_drew ?_ | refine blk_alloc ?_ _)); exact BK116.out)) : gb116 ≠ gb117)); have n8_ := Aside0.mk ((by rw [hg]; exact Nat.ne_of_gt (blk_lt (g := gb116) (o := .cells #[.int .i64 a1_0, .int .i64 a1_1, .string a1_2, .slice A1_3 l1_3.length c1_3] 36 (0, 0)) (by (with_reducible repeat (first | refine blk_drewN ?_ _ | refine blk_drew ?_ | refine blk_alloc ?_ _)); exact BK116.out)) : gb117 ≠ gb116)); clear HO1_3; clear HO2_3; clear BK116; clear HB; have HO1_3 := n0_; have HO2_3 := n1_; have BK116 := n2_; have HB := n3_; have BK117 := n4_; have GW117 := n5_; have GE117 := n6_; have NB116_117 := n7_; have NB117_116 := n8_; clear n0_ n1_ n2_ n3_ n4_ n5_ n6_ n7_ n8_; clear hb hbox hg) | ((with_reducible refine gate_dst (N := 6) rfl ?_); refine box_event ?hg (N := 6) ?hd (cs := #[.int .i64 0, .int .i64 0, .string (⟨#[]⟩ : ByteArray), .slice none 0 0]) (t := 36) ?hr ?_; (case hd => rfl); (case hg => rfl); (case hr => first | (go_simp; done) | (go_simp; rfl)); intro gb118 hg w6 hbox hb; have n0_ := Aside0.mk (Kd.V_below (Kd.V_elderB (by (with_reducible repeat (first | apply Kd.V_alloc | apply Kd.V_drewN | apply Kd.V_drew)); exact HO1_3.out) gb118 (Nat.le_of_eq hg.symm)) hb); have n1_ := Aside0.mk (Kd.V_below (Kd.V_elderB (by (with_reducible repeat (first | apply Kd.V_alloc | apply Kd.V_drewN | apply Kd.V_drew)); exact HO2_3.out) gb118 (Nat.le_of_eq hg.symm)) hb); have n2_ := Aside0.mk (blk_below (g := gb116) (o := .cells #[.int .i64 a1_0, .int .i64 a1_1, .string a1_2, .slice A1_3 l1_3.length c1_3] 36 (0, 0)) (by (with_reducible repeat (first | refine blk_drewN ?_ _ | refine blk_drew ?_ | refine blk_alloc ?_ _)); exact BK116.out) hb); have n3_ := Aside0.mk (blk_below (g := gb117) (o := .cells #[.int .i64 a2_0, .int .i64 a2_1, .string a2_2, .slice A2_3 l2_3.length c2_3] 36 (0, 0)) (by (with_reducible repeat (first | refine blk_drewN ?_ _ | refine blk_drew ?_ | refine blk_alloc ?_ _)); exact BK117.out) hb); have n4_ := Aside0.mk (below_step (by repeat (first | (with_reducible first | exact HB.out | apply below_alloc | apply pw_below_drewN | apply below_drew1 | refine below_set ?_ GE116.out | refine below_set ?_ GE117.out) | exact HB.out)) hb); have n5_ := Aside0.mk (hbox); have n6_ := Aside0.mk ((by rw [hg]; exact (below_size (by repeat (first | (with_reducible first | exact HB.out | apply below_alloc | apply pw_below_drewN | apply below_drew1 | refine below_set ?_ GE116.out | refine below_set ?_ GE117.out) | exact HB.out))) : w.heap.size ≤ gb118)); have n7_ := Aside0.mk ((by rw [hg]; exact (below_size (by repeat (first | (with_reducible first | exact HB.out | apply below_alloc | apply pw_below_drewN | apply below_drew1 | refine below_set ?_ GE116.out | refine below_set ?_ GE117.out) | exact HB.out))) : w.heap.size ≤ gb118)); have n8_ := Aside0.mk ((by rw [hg]; exact Nat.ne_of_lt (blk_lt (g := gb116) (o := .cells #[.int .i64 a1_0, .int .i64 a1_1, .string a1_2, .slice A1_3 l1_3.length c1_3] 36 (0, 0)) (by (with_reducible repeat (first | refine blk_drewN ?_ _ | refine blk_drew ?_ | refine blk_alloc ?_ _)); exact BK116.out)) : gb116 ≠ gb118)); have n9_ := Aside0.mk ((by rw [hg]; exact Nat.ne_of_gt (blk_lt (g := gb116) (o := .cells #[.int .i64 a1_0, .int .i64 a1_1, .string a1_2, .slice A1_3 l1_3.length c1_3] 36 (0, 0)) (by (with_reducible repeat (first | refine blk_drewN ?_ _ | refine blk_drew ?_ | refine blk_alloc ?_ _)); exact BK116.out)) : gb118 ≠ gb116)); have n10_ := Aside0.mk ((by rw [hg]; exact Nat.ne_of_lt (blk_lt (g := gb117) (o := .cells #[.int .i64 a2_0, .int .i64 a2_1, .string a2_2, .slice A2_3 l2_3.length c2_3] 36 (0, 0)) (by (with_reducible repeat (first | refine blk_drewN ?_ _ | refine blk_drew ?_ | refine blk_alloc ?_ _)); exact BK117.out)) : gb117 ≠ gb118)); have n11_ := Aside0.mk ((by rw [hg]; exact Nat.ne_of_gt (blk_lt (g := gb117) (o := .cells #[.int .i64 a2_0, .int .i64 a2_1, .string a2_2, .slice A2_3 l2_3.length c2_3] 36 (0, 0)) (by (with_reducible repeat (first | refine blk_drewN ?_ _ | refine blk_drew ?_ | refine blk_alloc ?_ _)); exact BK117.out)) : gb118 ≠ gb117)); clear HO1_3; clear HO2_3; clear BK116; clear BK117; clear HB; have HO1_3 := n0_; have HO2_3 := n1_; have BK116 := n2_; have BK117 := n3_; have HB := n4_; have BK118 := n5_; have GW118 := n6_; have GE118 := n7_; have NB116_118 := n8_; have NB118_116 := n9_; have NB117_118 := n10_; have NB118_117 := n11_; clear n0_ n1_ n2_ n3_ n4_ n5_ n6_ n7_ n8_ n9_ n10_ n11_; clear hb hbox hg; have hnb7 := NB116_117.out; have hnc7 := NB117_116.out; have hnb8 := NB116_118.out; have hnc8 := NB118_116.out; have hcz9_0 : w6.cell? ⟨gb116, 0, none⟩ = some (.int .i64 a1_0) := (blk_cell BK116.out 0).trans rfl; have hcz9_1 : w6.cell? ⟨gb116, 1, none⟩ = some (.int .i64 a1_1) := (blk_cell BK116.out 1).trans rfl; have hcz9_2 : w6.cell? ⟨gb116, 2, none⟩ = some (.string a1_2) := (blk_cell BK116.out 2).trans rfl; have hcz9_3 : w6.cell? ⟨gb116, 3, none⟩ = some (.slice A1_3 l1_3.length c1_3) := (blk_cell BK116.out 3).trans rfl; have hfz9_0 := blk_frozen BK116.out 0; have hfz9_1 := blk_frozen BK116.out 1; have hfz9_2 := blk_frozen BK116.out 2; have hfz9_3 := blk_frozen BK116.out 3; have hnb10 := NB117_118.out; have hnc10 := NB118_117.out; have hcz11_0 : w6.cell? ⟨gb117, 0, none⟩ = some (.int .i64 a2_0) := (blk_cell BK117.out 0).trans rfl; have hcz11_1 : w6.cell? ⟨gb117, 1, none⟩ = some (.int .i64 a2_1) := (blk_cell BK117.out 1).trans rfl; have hcz11_2 : w6.cell? ⟨gb117, 2, none⟩ = some (.string a2_2) := (blk_cell BK117.out 2).trans rfl; have hcz11_3 : w6.cell? ⟨gb117, 3, none⟩ = some (.slice A2_3 l2_3.length c2_3) := (blk_cell BK117.out 3).trans rfl; have hfz11_0 := blk_frozen BK117.out 0; have hfz11_1 := blk_frozen BK117.out 1; have hfz11_2 := blk_frozen BK117.out 2; have hfz11_3 := blk_frozen BK117.out 3) | ((with_reducible refine gate_dst (N := 10) rfl ?_); refine Kd.N_lit k36 _ 36 ?hg (N' := 10) ?hd (xs := ([(⟨a1_0, a1_1, a1_2, l1_3⟩ : S36), (⟨a2_0, a2_1, a2_2, l2_3⟩ : S36)] : List (S36))) (inner := [.int .i64 a1_0, .int .i64 a1_1, .string a1_2, .slice A1_3 l1_3.length c1_3, .int .i64 a2_0, .int .i64 a2_1, .string a2_2, .slice A2_3 l2_3.length c2_3]) (ok := (fun k_ => ((P1_3_ k_ ∨ P2_3_ k_) ∨ w.heap.size ≤ k_) ∧ k_ ≠ gb116 ∧ k_ ≠ gb117 ∧ k_ ≠ gb118)) (okp := (fun k_ => ((P1_3_ k_ ∨ P2_3_ k_) ∨ w.heap.size ≤ k_) ∧ k_ ≠ gb116 ∧ k_ ≠ gb117 ∧ k_ ≠ gb118)) ?hr ?hp (fun _ hk => hk) ((show ∀ k_, w6.heap.size ≤ k_ → (fun k_ => ((P1_3_ k_ ∨ P2_3_ k_) ∨ w.heap.size ≤ k_) ∧ k_ ≠ gb116 ∧ k_ ≠ gb117 ∧ k_ ≠ gb118) k_ from fun k_ hk => ⟨(.inr (Nat.le_trans (below_size (by repeat (first | (with_reducible first | exact HB.out | apply below_alloc | apply pw_below_drewN | apply below_drew1 | refine below_set ?_ GE116.out | refine below_set ?_ GE117.out | refine below_set ?_ GE118.out) | exact HB.out))) hk)), Kd.freshB (g := gb116) (o := .cells #[.int .i64 a1_0, .int .i64 a1_1, .string a1_2, .slice A1_3 l1_3.length c1_3] 36 (0, 0)) (by (with_reducible repeat (first | refine blk_drewN ?_ _ | refine blk_drew ?_ | refine blk_alloc ?_ _)); exact BK116.out) k_ hk, Kd.freshB (g := gb117) (o := .cells #[.int .i64 a2_0, .int .i64 a2_1, .string a2_2, .slice A2_3 l2_3.length c2_3] 36 (0, 0)) (by (with_reducible repeat (first | refine blk_drewN ?_ _ | refine blk_drew ?_ | refine blk_alloc ?_ _)); exact BK117.out) k_ hk, Kd.freshB (g := gb118) (o := .cells #[.int .i64 0, .int .i64 0, .string (⟨#[]⟩ : ByteArray), .slice none 0 0] 36 (0, 0)) (by (with_reducible repeat (first | refine blk_drewN ?_ _ | refine blk_drew ?_ | refine blk_alloc ?_ _)); exact BK118.out) k_ hk⟩) _ (Nat.le_refl _)) (Below.refl _ _) (Nat.le_refl _) (by simp) ?_; (case hd => rfl); (case hg => rfl); (case hr => first | (go_simp; done) | (go_simp; rfl)); (case hp => exact (Reps.c4 (show Kd.FK k36 _ _ (⟨a1_0, a1_1, a1_2, l1_3⟩ : S36) [.int .i64 a1_0, .int .i64 a1_1, .string a1_2, .slice A1_3 l1_3.length c1_3] from (k36_mkF _ _ (⟨a1_0, a1_1, a1_2, l1_3⟩ : S36) (Kd.V_reads' (Kd.V_mono (ok' := (fun k_ => ((P1_3_ k_ ∨ P2_3_ k_) ∨ w.heap.size ≤ k_) ∧ k_ ≠ gb116 ∧ k_ ≠ gb117 ∧ k_ ≠ gb118)) (HO1_3.out) (fun k_ hk => ⟨hk.1.1.1, ⟨hk.1.1.2, ⟨hk.1.2, hk.2⟩⟩⟩))).2.1 (Kd.V_F (Kd.V_mono (ok' := (fun k_ => ((P1_3_ k_ ∨ P2_3_ k_) ∨ w.heap.size ≤ k_) ∧ k_ ≠ gb116 ∧ k_ ≠ gb117 ∧ k_ ≠ gb118)) (HO1_3.out) (fun k_ hk => ⟨hk.1.1.1, ⟨hk.1.1.2, ⟨hk.1.2, hk.2⟩⟩⟩))))) (Reps.c4 (show Kd.FK k36 _ _ (⟨a2_0, a2_1, a2_2, l2_3⟩ : S36) [.int .i64 a2_0, .int .i64 a2_1, .string a2_2, .slice A2_3 l2_3.length c2_3] from (k36_mkF _ _ (⟨a2_0, a2_1, a2_2, l2_3⟩ : S36) (Kd.V_reads' (Kd.V_mono (ok' := (fun k_ => ((P1_3_ k_ ∨ P2_3_ k_) ∨ w.heap.size ≤ k_) ∧ k_ ≠ gb116 ∧ k_ ≠ gb117 ∧ k_ ≠ gb118)) (HO2_3.out) (fun k_ hk => ⟨hk.1.1.1, ⟨hk.1.1.2, ⟨hk.1.2, hk.2⟩⟩⟩))).2.1 (Kd.V_F (Kd.V_mono (ok' := (fun k_ => ((P1_3_ k_ ∨ P2_3_ k_) ∨ w.heap.size ≤ k_) ∧ k_ ≠ gb116 ∧ k_ ≠ gb117 ∧ k_ ≠ gb118)) (HO2_3.out) (fun k_ hk => ⟨hk.1.1.1, ⟨hk.1.1.2, ⟨hk.1.2, hk.2⟩⟩⟩))))) (Reps.none _ _)))); intro v120 w12 ho13 hb hg_ hnew_; clear hg_ hnew_; (first | rw [← Ny119.out] at ho13 | (simp only [Int.reduceToNat] at ho13; rw [← Ny119.out] at ho13)); have n0_ := Aside0.mk (Kd.V_elder' (by (with_reducible repeat (first | apply Kd.V_alloc | apply Kd.V_drewN | apply Kd.V_drew)); exact HO1_3.out) (Kd.N_base ho13) hb); have n1_ := Aside0.mk (Kd.V_elder' (by (with_reducible repeat (first | apply Kd.V_alloc | apply Kd.V_drewN | apply Kd.V_drew)); exact HO2_3.out) (Kd.N_base ho13) hb); have n2_ := Aside0.mk (Kd.N_lower ho13 (below_size (by repeat (first | (with_reducible first | exact HB.out | apply below_alloc | apply pw_below_drewN | apply below_drew1 | refine below_set ?_ GE116.out | refine below_set ?_ GE117.out | refine below_set ?_ GE118.out) | exact HB.out)))); have n3_ := Aside0.mk (blk_below (g := gb116) (o := .cells #[.int .i64 a1_0, .int .i64 a1_1, .string a1_2, .slice A1_3 l1_3.length c1_3] 36 (0, 0)) (by (with_reducible repeat (first | refine blk_drewN ?_ _ | refine blk_drew ?_ | refine blk_alloc ?_ _)); exact BK116.out) hb); have n4_ := Aside0.mk (blk_below (g := gb117) (o := .cells #[.int .i64 a2_0, .int .i64 a2_1, .string a2_2, .slice A2_3 l2_3.length c2_3] 36 (0, 0)) (by (with_reducible repeat (first | refine blk_drewN ?_ _ | refine blk_drew ?_ | refine blk_alloc ?_ _)); exact BK117.out) hb); have n5_ := Aside0.mk (blk_below (g := gb118) (o := .cells #[.int .i64 0, .int .i64 0, .string (⟨#[]⟩ : ByteArray), .slice none 0 0] 36 (0, 0)) (by (with_reducible repeat (first | refine blk_drewN ?_ _ | refine blk_drew ?_ | refine blk_alloc ?_ _)); exact BK118.out) hb); have n6_ := Aside0.mk (below_step (by repeat (first | (with_reducible first | exact HB.out | apply below_alloc | apply pw_below_drewN | apply below_drew1 | refine below_set ?_ GE116.out | refine below_set ?_ GE117.out | refine below_set ?_ GE118.out) | exact HB.out)) hb); clear HO1_3; clear HO2_3; clear BK116; clear BK117; clear BK118; clear HB; have HO1_3 := n0_; have HO2_3 := n1_; have HO121 := n2_; have BK116 := n3_; have BK117 := n4_; have BK118 := n5_; have HB := n6_; clear n0_ n1_ n2_ n3_ n4_ n5_ n6_; clear hb ho13; obtain ⟨Ao14, co14, eo14⟩ := Kd.N_slice HO121.out; subst eo14; have hcz15_0 : w12.cell? ⟨gb118, 0, none⟩ = some (.int .i64 0) := (blk_cell BK118.out 0).trans rfl; have hcz15_1 : w12.cell? ⟨gb118, 1, none⟩ = some (.int .i64 0) := (blk_cell BK118.out 1).trans rfl; have hcz15_2 : w12.cell? ⟨gb118, 2, none⟩ = some (.string (⟨#[]⟩ : ByteArray)) := (blk_cell BK118.out 2).trans rfl; have hcz15_3 : w12.cell? ⟨gb118, 3, none⟩ = some (.slice none 0 0) := (blk_cell BK118.out 3).trans rfl; have hfz15_0 := blk_frozen BK118.out 0; have hfz15_1 := blk_frozen BK118.out 1; have hfz15_2 := blk_frozen BK118.out 2; have hfz15_3 := blk_frozen BK118.out 3))
  refine bodyPost_ret (results_cell_row rfl _ _ gb118 36 #[.int .i64 a0, .int .i64 0, .string (⟨#[]⟩ : ByteArray), .slice Ao14 y119.length co14] (0, 0) _ rfl (by (with_reducible repeat (first | refine blk_drewN ?_ _ | refine blk_drew ?_ | refine blk_alloc ?_ _)); refine blk_put (cs := #[.int .i64 a0, .int .i64 0, .string (⟨#[]⟩ : ByteArray), .slice none 0 0]) ?_ 3 _ rfl; (with_reducible repeat (first | refine blk_drewN ?_ _ | refine blk_drew ?_ | refine blk_alloc ?_ _)); refine blk_put (cs := #[.int .i64 a0, .int .i64 0, .string (⟨#[]⟩ : ByteArray), .slice none 0 0]) ?_ 2 _ rfl; (with_reducible repeat (first | refine blk_drewN ?_ _ | refine blk_drew ?_ | refine blk_alloc ?_ _)); refine blk_put (cs := #[.int .i64 a0, .int .i64 0, .string (⟨#[]⟩ : ByteArray), .slice none 0 0]) ?_ 1 _ rfl; (with_reducible repeat (first | refine blk_drewN ?_ _ | refine blk_drew ?_ | refine blk_alloc ?_ _)); refine blk_put (cs := #[.int .i64 0, .int .i64 0, .string (⟨#[]⟩ : ByteArray), .slice none 0 0]) ?_ 0 _ rfl; (with_reducible repeat (first | refine blk_drewN ?_ _ | refine blk_drew ?_ | refine blk_alloc ?_ _)); exact BK118.out) Try.underlying36 rfl (by kernel_rfl)) rfl ?_
  exact ⟨_, by first | rfl | (simp [errW_none, errW_some] <;> rfl) | (simp [*, errW_none, errW_some] <;> rfl), by (with_reducible repeat (first | apply Kd.N_alloc | apply Kd.N_drewN | apply Kd.N_drew)); exact Kd.N_mono (Kd.N_far (p := ⟨gb118, 3, none⟩) (Kd.N_far (p := ⟨gb118, 2, none⟩) (Kd.N_far (p := ⟨gb118, 1, none⟩) (Kd.N_far (p := ⟨gb118, 0, none⟩) (Kd.N_mono HO121.out (fun k_ hk => (⟨hk, hk.2.2.2⟩ : _ ∧ k_ ≠ gb118))) (fun _ hk => hk.2) (.int .i64 a0)) (fun _ hk => hk.2) (.int .i64 0)) (fun _ hk => hk.2) (.string (⟨#[]⟩ : ByteArray))) (fun _ hk => hk.2) (.slice Ao14 y119.length co14)) (fun _ hk => hk.1.1), by repeat (first | (with_reducible first | exact HB.out | apply below_alloc | apply pw_below_drewN | apply below_drew1 | refine below_set ?_ GE116.out | refine below_set ?_ GE117.out | refine below_set ?_ GE118.out) | exact HB.out)⟩

end Go.Proofs.Ytgoefoilghjfhaa.MEvalExprTells
