-- Written by a program of this session (wip/myprint in its repo: the kit's print with additions of its own).
import Derived.Test.YtgoefoilghjfhaaMEvalExprTellsx0
import Derived.Test.YtgoefoilghjfhaaMEvalExprTellsx3
namespace Go.Proofs.Ytgoefoilghjfhaa.MEvalExprTells
open Go.RowKit Go.Proofs.YtgoefoilghjfhaaW.PrintWords Go.Proofs.YtgoefoilghjfhaaW.PrintLast Go.Proofs.YtgoefoilghjfhaaW.PrintMore
attribute [local go_sem] max2_int min2_int max_two min_two max_three min_three max_four min_four   -- for this text's walks alone
set_option linter.unusedVariables false
set_option linter.unusedSimpArgs false

/-! ### interleaveref05_Unary: function 23 -/
def interleaveref05_Unary.f (a0 : Int) (a1 : Int) : Option (Int × Bool) := if a0 = 4 then (some (wrap64 (-a1), true)) else (if a0 = 5 then ((interleaveref05_truth.f (a1 == 0)).bind fun t124 => (some (t124, true))) else (some (0, false)))
set_option maxHeartbeats 8000000 in
set_option maxRecDepth 100000 in
theorem interleaveref05_Unary.calls (a0 : Int) (a1 : Int) (r1 : Int) (r2 : Bool) (w : World) (h : interleaveref05_Unary.f a0 a1 = some (r1, r2)) :
    Calls Try.prog 23 #[.int .i64 a0, .int .i64 a1] w fun e w' => e = .returned (.tuple #[.int .i64 r1, .bool r2]) ∧ Drawn0 w w' := by
  have H : (if a0 = 4 then (some (wrap64 (-a1), true)) else (if a0 = 5 then ((interleaveref05_truth.f (a1 == 0)).bind fun t124 => (some (t124, true))) else (some (0, false)))) = some (r1, r2) := h
  clear h
  by_cases c3 : a0 = 4
  · rw [if_pos c3] at H
    have c3b0 : (a0 == 4) = true := beq_iff_eq.mpr c3
    have c3b1 : (a0 != 4) = false := bne_eq_false_iff_eq.mpr c3
    clear c3
    simp only [Option.some.injEq, Prod.mk.injEq] at H
    obtain ⟨rfl, rfl⟩ := H
    go_enter Try.func23, Try.ntmps23
    go_wp2
    go_ret2
    exact ⟨by first | rfl | (simp; done) | (simp [*]; done), by repeat (first | exact Drawn0.refl _ | apply Drawn0.step)⟩
  · rw [if_neg c3] at H
    have c3b0 : (a0 == 4) = false := beq_eq_false_iff_ne.mpr c3
    have c3b1 : (a0 != 4) = true := bne_iff_ne.mpr c3
    by_cases c4 : a0 = 5
    · rw [if_pos c4] at H
      have c4b0 : (a0 == 5) = true := beq_iff_eq.mpr c4
      have c4b1 : (a0 != 5) = false := bne_eq_false_iff_eq.mpr c4
      clear c4
      replace H := Option.bind_eq_some_iff.mp H
      obtain ⟨t124, A50, H⟩ := H
      replace H : (some (t124, true)) = some (r1, r2) := H
      have A5 := Aside0.mk A50
      clear A50
      simp only [Option.some.injEq, Prod.mk.injEq] at H
      obtain ⟨rfl, rfl⟩ := H
      go_enter Try.func23, Try.ntmps23
      go_wp2_with (first | ((with_reducible refine gate_callee (f := 28) rfl ?_); refine goesL_ (some 15) rfl rfl Try.func28 (by kernel_rfl) rfl #[.bool (a1 == 0)] rfl (by (try simp only [List.map_toArray, List.map_cons, List.map_nil]); first | done | rfl | (simp only [List.length_drop, List.length_take]; rfl)) ?_; (with_reducible refine (interleaveref05_truth.calls (a1 == 0) t124 _ A5.out).mono ?_); rintro e w' ⟨rfl, ⟨nd, rfl⟩⟩; refine ⟨_, rfl, ?_⟩))
      go_ret2
      exact ⟨by first | rfl | (simp; done) | (simp [*]; done), by repeat (first | exact Drawn0.refl _ | apply Drawn0.step)⟩
    · rw [if_neg c4] at H
      have c4b0 : (a0 == 5) = false := beq_eq_false_iff_ne.mpr c4
      have c4b1 : (a0 != 5) = true := bne_iff_ne.mpr c4
      simp only [Option.some.injEq, Prod.mk.injEq] at H
      obtain ⟨rfl, rfl⟩ := H
      go_enter Try.func23, Try.ntmps23
      go_wp2
      go_ret2
      exact ⟨by first | rfl | (simp; done) | (simp [*]; done), by repeat (first | exact Drawn0.refl _ | apply Drawn0.step)⟩

/-! ### interleaveref05_Binary: function 24 -/
def interleaveref05_Binary.f (a0 : Int) (a1 : Int) (a2 : Int) : Option (Int × Bool) := if a0 = 6 then (some (wrap64 (a1 + a2), true)) else (if a0 = 7 then (some (wrap64 (a1 - a2), true)) else (if a0 = 8 then (some (wrap64 (a1 * a2), true)) else (if a0 = 9 then (if a2 = 0 then (some (0, true)) else (some (wrap64 (Int.tdiv a1 a2), true))) else (if a0 = 10 then (if a2 = 0 then (some (0, true)) else (some (Int.tmod a1 a2, true))) else (if a0 = 11 then ((interleaveref05_truth.f (a1 == a2)).bind fun t125 => (some (t125, true))) else (if a0 = 12 then ((interleaveref05_truth.f (a1 != a2)).bind fun t126 => (some (t126, true))) else (if a0 = 13 then ((interleaveref05_truth.f (decide (a1 < a2))).bind fun t127 => (some (t127, true))) else (if a0 = 14 then ((interleaveref05_truth.f (decide (a1 ≤ a2))).bind fun t128 => (some (t128, true))) else (if a0 = 15 then ((interleaveref05_truth.f (decide (a1 > a2))).bind fun t129 => (some (t129, true))) else (if a0 = 16 then ((interleaveref05_truth.f (decide (a1 ≥ a2))).bind fun t130 => (some (t130, true))) else (if a0 = 17 then (if a1 = 0 then ((interleaveref05_truth.f false).bind fun t131 => (some (t131, true))) else ((interleaveref05_truth.f (a2 != 0)).bind fun t132 => (some (t132, true)))) else (if a0 = 18 then (if a1 = 0 then ((interleaveref05_truth.f (a2 != 0)).bind fun t133 => (some (t133, true))) else ((interleaveref05_truth.f true).bind fun t134 => (some (t134, true)))) else (some (0, false))))))))))))))
set_option maxHeartbeats 8000000 in
set_option maxRecDepth 100000 in
theorem interleaveref05_Binary.calls (a0 : Int) (a1 : Int) (a2 : Int) (r1 : Int) (r2 : Bool) (w : World) (h : interleaveref05_Binary.f a0 a1 a2 = some (r1, r2)) :
    Calls Try.prog 24 #[.int .i64 a0, .int .i64 a1, .int .i64 a2] w fun e w' => e = .returned (.tuple #[.int .i64 r1, .bool r2]) ∧ Drawn0 w w' := by
  have H : (if a0 = 6 then (some (wrap64 (a1 + a2), true)) else (if a0 = 7 then (some (wrap64 (a1 - a2), true)) else (if a0 = 8 then (some (wrap64 (a1 * a2), true)) else (if a0 = 9 then (if a2 = 0 then (some (0, true)) else (some (wrap64 (Int.tdiv a1 a2), true))) else (if a0 = 10 then (if a2 = 0 then (some (0, true)) else (some (Int.tmod a1 a2, true))) else (if a0 = 11 then ((interleaveref05_truth.f (a1 == a2)).bind fun t125 => (some (t125, true))) else (if a0 = 12 then ((interleaveref05_truth.f (a1 != a2)).bind fun t126 => (some (t126, true))) else (if a0 = 13 then ((interleaveref05_truth.f (decide (a1 < a2))).bind fun t127 => (some (t127, true))) else (if a0 = 14 then ((interleaveref05_truth.f (decide (a1 ≤ a2))).bind fun t128 => (some (t128, true))) else (if a0 = 15 then ((interleaveref05_truth.f (decide (a1 > a2))).bind fun t129 => (some (t129, true))) else (if a0 = 16 then ((interleaveref05_truth.f (decide (a1 ≥ a2))).bind fun t130 => (some (t130, true))) else (if a0 = 17 then (if a1 = 0 then ((interleaveref05_truth.f false).bind fun t131 => (some (t131, true))) else ((interleaveref05_truth.f (a2 != 0)).bind fun t132 => (some (t132, true)))) else (if a0 = 18 then (if a1 = 0 then ((interleaveref05_truth.f (a2 != 0)).bind fun t133 => (some (t133, true))) else ((interleaveref05_truth.f true).bind fun t134 => (some (t134, true)))) else (some (0, false))))))))))))))) = some (r1, r2) := h
  clear h
  by_cases c4 : a0 = 6
  · rw [if_pos c4] at H
    have c4b0 : (a0 == 6) = true := beq_iff_eq.mpr c4
    have c4b1 : (a0 != 6) = false := bne_eq_false_iff_eq.mpr c4
    clear c4
    simp only [Option.some.injEq, Prod.mk.injEq] at H
    obtain ⟨rfl, rfl⟩ := H
    go_enter Try.func24, Try.ntmps24
    go_wp2
    go_ret2
    exact ⟨by first | rfl | (simp; done) | (simp [*]; done), by repeat (first | exact Drawn0.refl _ | apply Drawn0.step)⟩
  · rw [if_neg c4] at H
    have c4b0 : (a0 == 6) = false := beq_eq_false_iff_ne.mpr c4
    have c4b1 : (a0 != 6) = true := bne_iff_ne.mpr c4
    by_cases c5 : a0 = 7
    · rw [if_pos c5] at H
      have c5b0 : (a0 == 7) = true := beq_iff_eq.mpr c5
      have c5b1 : (a0 != 7) = false := bne_eq_false_iff_eq.mpr c5
      clear c5
      simp only [Option.some.injEq, Prod.mk.injEq] at H
      obtain ⟨rfl, rfl⟩ := H
      go_enter Try.func24, Try.ntmps24
      go_wp2
      go_ret2
      exact ⟨by first | rfl | (simp; done) | (simp [*]; done), by repeat (first | exact Drawn0.refl _ | apply Drawn0.step)⟩
    · rw [if_neg c5] at H
      have c5b0 : (a0 == 7) = false := beq_eq_false_iff_ne.mpr c5
      have c5b1 : (a0 != 7) = true := bne_iff_ne.mpr c5
      by_cases c6 : a0 = 8
      · rw [if_pos c6] at H
        have c6b0 : (a0 == 8) = true := beq_iff_eq.mpr c6
        have c6b1 : (a0 != 8) = false := bne_eq_false_iff_eq.mpr c6
        clear c6
        simp only [Option.some.injEq, Prod.mk.injEq] at H
        obtain ⟨rfl, rfl⟩ := H
        go_enter Try.func24, Try.ntmps24
        go_wp2
        go_ret2
        exact ⟨by first | rfl | (simp; done) | (simp [*]; done), by repeat (first | exact Drawn0.refl _ | apply Drawn0.step)⟩
      · rw [if_neg c6] at H
        have c6b0 : (a0 == 8) = false := beq_eq_false_iff_ne.mpr c6
        have c6b1 : (a0 != 8) = true := bne_iff_ne.mpr c6
        by_cases c7 : a0 = 9
        · rw [if_pos c7] at H
          have c7b0 : (a0 == 9) = true := beq_iff_eq.mpr c7
          have c7b1 : (a0 != 9) = false := bne_eq_false_iff_eq.mpr c7
          clear c7
          by_cases c8 : a2 = 0
          · rw [if_pos c8] at H
            have c8b0 : (a2 == 0) = true := beq_iff_eq.mpr c8
            have c8b1 : (a2 != 0) = false := bne_eq_false_iff_eq.mpr c8
            clear c8
            simp only [Option.some.injEq, Prod.mk.injEq] at H
            obtain ⟨rfl, rfl⟩ := H
            go_enter Try.func24, Try.ntmps24
            go_wp2
            go_ret2
            exact ⟨by first | rfl | (simp; done) | (simp [*]; done), by repeat (first | exact Drawn0.refl _ | apply Drawn0.step)⟩
          · rw [if_neg c8] at H
            have c8b0 : (a2 == 0) = false := beq_eq_false_iff_ne.mpr c8
            have c8b1 : (a2 != 0) = true := bne_iff_ne.mpr c8
            simp only [Option.some.injEq, Prod.mk.injEq] at H
            obtain ⟨rfl, rfl⟩ := H
            go_enter Try.func24, Try.ntmps24
            go_wp2
            go_ret2
            exact ⟨by first | rfl | (simp; done) | (simp [*]; done), by repeat (first | exact Drawn0.refl _ | apply Drawn0.step)⟩
        · rw [if_neg c7] at H
          have c7b0 : (a0 == 9) = false := beq_eq_false_iff_ne.mpr c7
          have c7b1 : (a0 != 9) = true := bne_iff_ne.mpr c7
          by_cases c9 : a0 = 10
          · rw [if_pos c9] at H
            have c9b0 : (a0 == 10) = true := beq_iff_eq.mpr c9
            have c9b1 : (a0 != 10) = false := bne_eq_false_iff_eq.mpr c9
            clear c9
            by_cases c10 : a2 = 0
            · rw [if_pos c10] at H
              have c10b0 : (a2 == 0) = true := beq_iff_eq.mpr c10
              have c10b1 : (a2 != 0) = false := bne_eq_false_iff_eq.mpr c10
              clear c10
              simp only [Option.some.injEq, Prod.mk.injEq] at H
              obtain ⟨rfl, rfl⟩ := H
              go_enter Try.func24, Try.ntmps24
              go_wp2
              go_ret2
              exact ⟨by first | rfl | (simp; done) | (simp [*]; done), by repeat (first | exact Drawn0.refl _ | apply Drawn0.step)⟩
            · rw [if_neg c10] at H
              have c10b0 : (a2 == 0) = false := beq_eq_false_iff_ne.mpr c10
              have c10b1 : (a2 != 0) = true := bne_iff_ne.mpr c10
              simp only [Option.some.injEq, Prod.mk.injEq] at H
              obtain ⟨rfl, rfl⟩ := H
              go_enter Try.func24, Try.ntmps24
              go_wp2
              go_ret2
              exact ⟨by first | rfl | (simp; done) | (simp [*]; done), by repeat (first | exact Drawn0.refl _ | apply Drawn0.step)⟩
          · rw [if_neg c9] at H
            have c9b0 : (a0 == 10) = false := beq_eq_false_iff_ne.mpr c9
            have c9b1 : (a0 != 10) = true := bne_iff_ne.mpr c9
            by_cases c11 : a0 = 11
            · rw [if_pos c11] at H
              have c11b0 : (a0 == 11) = true := beq_iff_eq.mpr c11
              have c11b1 : (a0 != 11) = false := bne_eq_false_iff_eq.mpr c11
              clear c11
              replace H := Option.bind_eq_some_iff.mp H
              obtain ⟨t125, A120, H⟩ := H
              replace H : (some (t125, true)) = some (r1, r2) := H
              have A12 := Aside0.mk A120
              clear A120
              simp only [Option.some.injEq, Prod.mk.injEq] at H
              obtain ⟨rfl, rfl⟩ := H
              go_enter Try.func24, Try.ntmps24
              go_wp2_with (first | ((with_reducible refine gate_callee (f := 28) rfl ?_); refine goesL_ (some 43) rfl rfl Try.func28 (by kernel_rfl) rfl #[.bool (a1 == a2)] rfl (by (try simp only [List.map_toArray, List.map_cons, List.map_nil]); first | done | rfl | (simp only [List.length_drop, List.length_take]; rfl)) ?_; (with_reducible refine (interleaveref05_truth.calls (a1 == a2) t125 _ A12.out).mono ?_); rintro e w' ⟨rfl, ⟨nd, rfl⟩⟩; refine ⟨_, rfl, ?_⟩))
              go_ret2
              exact ⟨by first | rfl | (simp; done) | (simp [*]; done), by repeat (first | exact Drawn0.refl _ | apply Drawn0.step)⟩
            · rw [if_neg c11] at H
              have c11b0 : (a0 == 11) = false := beq_eq_false_iff_ne.mpr c11
              have c11b1 : (a0 != 11) = true := bne_iff_ne.mpr c11
              by_cases c13 : a0 = 12
              · rw [if_pos c13] at H
                have c13b0 : (a0 == 12) = true := beq_iff_eq.mpr c13
                have c13b1 : (a0 != 12) = false := bne_eq_false_iff_eq.mpr c13
                clear c13
                replace H := Option.bind_eq_some_iff.mp H
                obtain ⟨t126, A140, H⟩ := H
                replace H : (some (t126, true)) = some (r1, r2) := H
                have A14 := Aside0.mk A140
                clear A140
                simp only [Option.some.injEq, Prod.mk.injEq] at H
                obtain ⟨rfl, rfl⟩ := H
                go_enter Try.func24, Try.ntmps24
                go_wp2_with (first | ((with_reducible refine gate_callee (f := 28) rfl ?_); refine goesL_ (some 49) rfl rfl Try.func28 (by kernel_rfl) rfl #[.bool (a1 != a2)] rfl (by (try simp only [List.map_toArray, List.map_cons, List.map_nil]); first | done | rfl | (simp only [List.length_drop, List.length_take]; rfl)) ?_; (with_reducible refine (interleaveref05_truth.calls (a1 != a2) t126 _ A14.out).mono ?_); rintro e w' ⟨rfl, ⟨nd, rfl⟩⟩; refine ⟨_, rfl, ?_⟩))
                go_ret2
                exact ⟨by first | rfl | (simp; done) | (simp [*]; done), by repeat (first | exact Drawn0.refl _ | apply Drawn0.step)⟩
              · rw [if_neg c13] at H
                have c13b0 : (a0 == 12) = false := beq_eq_false_iff_ne.mpr c13
                have c13b1 : (a0 != 12) = true := bne_iff_ne.mpr c13
                by_cases c15 : a0 = 13
                · rw [if_pos c15] at H
                  have c15b0 : (a0 == 13) = true := beq_iff_eq.mpr c15
                  have c15b1 : (a0 != 13) = false := bne_eq_false_iff_eq.mpr c15
                  clear c15
                  replace H := Option.bind_eq_some_iff.mp H
                  obtain ⟨t127, A160, H⟩ := H
                  replace H : (some (t127, true)) = some (r1, r2) := H
                  have A16 := Aside0.mk A160
                  clear A160
                  simp only [Option.some.injEq, Prod.mk.injEq] at H
                  obtain ⟨rfl, rfl⟩ := H
                  go_enter Try.func24, Try.ntmps24
                  go_wp2_with (first | ((with_reducible refine gate_callee (f := 28) rfl ?_); refine goesL_ (some 55) rfl rfl Try.func28 (by kernel_rfl) rfl #[.bool (decide (a1 < a2))] rfl (by (try simp only [List.map_toArray, List.map_cons, List.map_nil]); first | done | rfl | (simp only [List.length_drop, List.length_take]; rfl)) ?_; (with_reducible refine (interleaveref05_truth.calls (decide (a1 < a2)) t127 _ A16.out).mono ?_); rintro e w' ⟨rfl, ⟨nd, rfl⟩⟩; refine ⟨_, rfl, ?_⟩))
                  go_ret2
                  exact ⟨by first | rfl | (simp; done) | (simp [*]; done), by repeat (first | exact Drawn0.refl _ | apply Drawn0.step)⟩
                · rw [if_neg c15] at H
                  have c15b0 : (a0 == 13) = false := beq_eq_false_iff_ne.mpr c15
                  have c15b1 : (a0 != 13) = true := bne_iff_ne.mpr c15
                  by_cases c17 : a0 = 14
                  · rw [if_pos c17] at H
                    have c17b0 : (a0 == 14) = true := beq_iff_eq.mpr c17
                    have c17b1 : (a0 != 14) = false := bne_eq_false_iff_eq.mpr c17
                    clear c17
                    replace H := Option.bind_eq_some_iff.mp H
                    obtain ⟨t128, A180, H⟩ := H
                    replace H : (some (t128, true)) = some (r1, r2) := H
                    have A18 := Aside0.mk A180
                    clear A180
                    simp only [Option.some.injEq, Prod.mk.injEq] at H
                    obtain ⟨rfl, rfl⟩ := H
                    go_enter Try.func24, Try.ntmps24
                    go_wp2_with (first | ((with_reducible refine gate_callee (f := 28) rfl ?_); refine goesL_ (some 61) rfl rfl Try.func28 (by kernel_rfl) rfl #[.bool (decide (a1 ≤ a2))] rfl (by (try simp only [List.map_toArray, List.map_cons, List.map_nil]); first | done | rfl | (simp only [List.length_drop, List.length_take]; rfl)) ?_; (with_reducible refine (interleaveref05_truth.calls (decide (a1 ≤ a2)) t128 _ A18.out).mono ?_); rintro e w' ⟨rfl, ⟨nd, rfl⟩⟩; refine ⟨_, rfl, ?_⟩))
                    go_ret2
                    exact ⟨by first | rfl | (simp; done) | (simp [*]; done), by repeat (first | exact Drawn0.refl _ | apply Drawn0.step)⟩
                  · rw [if_neg c17] at H
                    have c17b0 : (a0 == 14) = false := beq_eq_false_iff_ne.mpr c17
                    have c17b1 : (a0 != 14) = true := bne_iff_ne.mpr c17
                    by_cases c19 : a0 = 15
                    · rw [if_pos c19] at H
                      have c19b0 : (a0 == 15) = true := beq_iff_eq.mpr c19
                      have c19b1 : (a0 != 15) = false := bne_eq_false_iff_eq.mpr c19
                      clear c19
                      replace H := Option.bind_eq_some_iff.mp H
                      obtain ⟨t129, A200, H⟩ := H
                      replace H : (some (t129, true)) = some (r1, r2) := H
                      have A20 := Aside0.mk A200
                      clear A200
                      simp only [Option.some.injEq, Prod.mk.injEq] at H
                      obtain ⟨rfl, rfl⟩ := H
                      go_enter Try.func24, Try.ntmps24
                      go_wp2_with (first | ((with_reducible refine gate_callee (f := 28) rfl ?_); refine goesL_ (some 67) rfl rfl Try.func28 (by kernel_rfl) rfl #[.bool (decide (a1 > a2))] rfl (by (try simp only [List.map_toArray, List.map_cons, List.map_nil]); first | done | rfl | (simp only [List.length_drop, List.length_take]; rfl)) ?_; (with_reducible refine (interleaveref05_truth.calls (decide (a1 > a2)) t129 _ A20.out).mono ?_); rintro e w' ⟨rfl, ⟨nd, rfl⟩⟩; refine ⟨_, rfl, ?_⟩))
                      go_ret2
                      exact ⟨by first | rfl | (simp; done) | (simp [*]; done), by repeat (first | exact Drawn0.refl _ | apply Drawn0.step)⟩
                    · rw [if_neg c19] at H
                      have c19b0 : (a0 == 15) = false := beq_eq_false_iff_ne.mpr c19
                      have c19b1 : (a0 != 15) = true := bne_iff_ne.mpr c19
                      by_cases c21 : a0 = 16
                      · rw [if_pos c21] at H
                        have c21b0 : (a0 == 16) = true := beq_iff_eq.mpr c21
                        have c21b1 : (a0 != 16) = false := bne_eq_false_iff_eq.mpr c21
                        clear c21
                        replace H := Option.bind_eq_some_iff.mp H
                        obtain ⟨t130, A220, H⟩ := H
                        replace H : (some (t130, true)) = some (r1, r2) := H
                        have A22 := Aside0.mk A220
                        clear A220
                        simp only [Option.some.injEq, Prod.mk.injEq] at H
                        obtain ⟨rfl, rfl⟩ := H
                        go_enter Try.func24, Try.ntmps24
                        go_wp2_with (first | ((with_reducible refine gate_callee (f := 28) rfl ?_); refine goesL_ (some 73) rfl rfl Try.func28 (by kernel_rfl) rfl #[.bool (decide (a1 ≥ a2))] rfl (by (try simp only [List.map_toArray, List.map_cons, List.map_nil]); first | done | rfl | (simp only [List.length_drop, List.length_take]; rfl)) ?_; (with_reducible refine (interleaveref05_truth.calls (decide (a1 ≥ a2)) t130 _ A22.out).mono ?_); rintro e w' ⟨rfl, ⟨nd, rfl⟩⟩; refine ⟨_, rfl, ?_⟩))
                        go_ret2
                        exact ⟨by first | rfl | (simp; done) | (simp [*]; done), by repeat (first | exact Drawn0.refl _ | apply Drawn0.step)⟩
                      · rw [if_neg c21] at H
                        have c21b0 : (a0 == 16) = false := beq_eq_false_iff_ne.mpr c21
                        have c21b1 : (a0 != 16) = true := bne_iff_ne.mpr c21
                        by_cases c23 : a0 = 17
                        · rw [if_pos c23] at H
                          have c23b0 : (a0 == 17) = true := beq_iff_eq.mpr c23
                          have c23b1 : (a0 != 17) = false := bne_eq_false_iff_eq.mpr c23
                          clear c23
                          by_cases c24 : a1 = 0
                          · rw [if_pos c24] at H
                            have c24b0 : (a1 == 0) = true := beq_iff_eq.mpr c24
                            have c24b1 : (a1 != 0) = false := bne_eq_false_iff_eq.mpr c24
                            clear c24
                            replace H := Option.bind_eq_some_iff.mp H
                            obtain ⟨t131, A250, H⟩ := H
                            replace H : (some (t131, true)) = some (r1, r2) := H
                            have A25 := Aside0.mk A250
                            clear A250
                            simp only [Option.some.injEq, Prod.mk.injEq] at H
                            obtain ⟨rfl, rfl⟩ := H
                            go_enter Try.func24, Try.ntmps24
                            go_wp2_with (first | ((with_reducible refine gate_callee (f := 28) rfl ?_); refine goesL_ (some 82) rfl rfl Try.func28 (by kernel_rfl) rfl #[.bool false] rfl (by (try simp only [List.map_toArray, List.map_cons, List.map_nil]); first | done | rfl | (simp only [List.length_drop, List.length_take]; rfl)) ?_; (with_reducible refine (interleaveref05_truth.calls false t131 _ A25.out).mono ?_); rintro e w' ⟨rfl, ⟨nd, rfl⟩⟩; refine ⟨_, rfl, ?_⟩))
                            go_ret2
                            exact ⟨by first | rfl | (simp; done) | (simp [*]; done), by repeat (first | exact Drawn0.refl _ | apply Drawn0.step)⟩
                          · rw [if_neg c24] at H
                            have c24b0 : (a1 == 0) = false := beq_eq_false_iff_ne.mpr c24
                            have c24b1 : (a1 != 0) = true := bne_iff_ne.mpr c24
                            replace H := Option.bind_eq_some_iff.mp H
                            obtain ⟨t132, A260, H⟩ := H
                            replace H : (some (t132, true)) = some (r1, r2) := H
                            have A26 := Aside0.mk A260
                            clear A260
                            simp only [Option.some.injEq, Prod.mk.injEq] at H
                            obtain ⟨rfl, rfl⟩ := H
                            go_enter Try.func24, Try.ntmps24
                            go_wp2_with (first | ((with_reducible refine gate_callee (f := 28) rfl ?_); refine goesL_ (some 82) rfl rfl Try.func28 (by kernel_rfl) rfl #[.bool (a2 != 0)] rfl (by (try simp only [List.map_toArray, List.map_cons, List.map_nil]); first | done | rfl | (simp only [List.length_drop, List.length_take]; rfl)) ?_; (with_reducible refine (interleaveref05_truth.calls (a2 != 0) t132 _ A26.out).mono ?_); rintro e w' ⟨rfl, ⟨nd, rfl⟩⟩; refine ⟨_, rfl, ?_⟩))
                            go_ret2
                            exact ⟨by first | rfl | (simp; done) | (simp [*]; done), by repeat (first | exact Drawn0.refl _ | apply Drawn0.step)⟩
                        · rw [if_neg c23] at H
                          have c23b0 : (a0 == 17) = false := beq_eq_false_iff_ne.mpr c23
                          have c23b1 : (a0 != 17) = true := bne_iff_ne.mpr c23
                          by_cases c27 : a0 = 18
                          · rw [if_pos c27] at H
                            have c27b0 : (a0 == 18) = true := beq_iff_eq.mpr c27
                            have c27b1 : (a0 != 18) = false := bne_eq_false_iff_eq.mpr c27
                            clear c27
                            by_cases c28 : a1 = 0
                            · rw [if_pos c28] at H
                              have c28b0 : (a1 == 0) = true := beq_iff_eq.mpr c28
                              have c28b1 : (a1 != 0) = false := bne_eq_false_iff_eq.mpr c28
                              clear c28
                              replace H := Option.bind_eq_some_iff.mp H
                              obtain ⟨t133, A290, H⟩ := H
                              replace H : (some (t133, true)) = some (r1, r2) := H
                              have A29 := Aside0.mk A290
                              clear A290
                              simp only [Option.some.injEq, Prod.mk.injEq] at H
                              obtain ⟨rfl, rfl⟩ := H
                              go_enter Try.func24, Try.ntmps24
                              go_wp2_with (first | ((with_reducible refine gate_callee (f := 28) rfl ?_); refine goesL_ (some 91) rfl rfl Try.func28 (by kernel_rfl) rfl #[.bool (a2 != 0)] rfl (by (try simp only [List.map_toArray, List.map_cons, List.map_nil]); first | done | rfl | (simp only [List.length_drop, List.length_take]; rfl)) ?_; (with_reducible refine (interleaveref05_truth.calls (a2 != 0) t133 _ A29.out).mono ?_); rintro e w' ⟨rfl, ⟨nd, rfl⟩⟩; refine ⟨_, rfl, ?_⟩))
                              go_ret2
                              exact ⟨by first | rfl | (simp; done) | (simp [*]; done), by repeat (first | exact Drawn0.refl _ | apply Drawn0.step)⟩
                            · rw [if_neg c28] at H
                              have c28b0 : (a1 == 0) = false := beq_eq_false_iff_ne.mpr c28
                              have c28b1 : (a1 != 0) = true := bne_iff_ne.mpr c28
                              replace H := Option.bind_eq_some_iff.mp H
                              obtain ⟨t134, A300, H⟩ := H
                              replace H : (some (t134, true)) = some (r1, r2) := H
                              have A30 := Aside0.mk A300
                              clear A300
                              simp only [Option.some.injEq, Prod.mk.injEq] at H
                              obtain ⟨rfl, rfl⟩ := H
                              go_enter Try.func24, Try.ntmps24
                              go_wp2_with (first | ((with_reducible refine gate_callee (f := 28) rfl ?_); refine goesL_ (some 91) rfl rfl Try.func28 (by kernel_rfl) rfl #[.bool true] rfl (by (try simp only [List.map_toArray, List.map_cons, List.map_nil]); first | done | rfl | (simp only [List.length_drop, List.length_take]; rfl)) ?_; (with_reducible refine (interleaveref05_truth.calls true t134 _ A30.out).mono ?_); rintro e w' ⟨rfl, ⟨nd, rfl⟩⟩; refine ⟨_, rfl, ?_⟩))
                              go_ret2
                              exact ⟨by first | rfl | (simp; done) | (simp [*]; done), by repeat (first | exact Drawn0.refl _ | apply Drawn0.step)⟩
                          · rw [if_neg c27] at H
                            have c27b0 : (a0 == 18) = false := beq_eq_false_iff_ne.mpr c27
                            have c27b1 : (a0 != 18) = true := bne_iff_ne.mpr c27
                            simp only [Option.some.injEq, Prod.mk.injEq] at H
                            obtain ⟨rfl, rfl⟩ := H
                            go_enter Try.func24, Try.ntmps24
                            go_wp2
                            go_ret2
                            exact ⟨by first | rfl | (simp; done) | (simp [*]; done), by repeat (first | exact Drawn0.refl _ | apply Drawn0.step)⟩

end Go.Proofs.Ytgoefoilghjfhaa.MEvalExprTells
