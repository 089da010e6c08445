-- PRINTED BY print.sh 35421559b90ae4d0a3588c463048766b98c2df88dd9212a6774a882060cdf62d: not written by this session
import Derived.Test.YtgoefoilghjfhaaPEvalQuotientsx0
namespace Go.Proofs.Ytgoefoilghjfhaa.PEvalQuotients
open Go.RowKit Go.Proofs.YtgoefoilghjfhaaW.PrintWords Go.Proofs.YtgoefoilghjfhaaW.PrintLast Go.Proofs.YtgoefoilghjfhaaW.PrintMore
attribute [local go_sem] max2_int min2_int max_two min_two max_three min_three max_four min_four   -- for this text's walks alone
set_option linter.unusedVariables false
set_option linter.unusedSimpArgs false

/-! ### eval_divide: function 21 -/
def eval_divide.f (a0 : Int) (a1 : Int) (a2 : Int) : Option (Int) := if a2 = 0 then (some 0) else (if a0 = 9 then (some (wrap64 (Int.tdiv a1 a2))) else (some (Int.tmod a1 a2)))
set_option maxHeartbeats 8000000 in
set_option maxRecDepth 100000 in
theorem eval_divide.calls (a0 : Int) (a1 : Int) (a2 : Int) (r : Int) (w : World) (h : eval_divide.f a0 a1 a2 = some r) :
    Calls Try.prog 21 #[.int .i64 a0, .int .i64 a1, .int .i64 a2] w fun e w' => e = .returned (.int .i64 r) ∧ Drawn0 w w' := by
  have H : (if a2 = 0 then (some 0) else (if a0 = 9 then (some (wrap64 (Int.tdiv a1 a2))) else (some (Int.tmod a1 a2)))) = some r := h
  clear h
  by_cases c4 : a2 = 0
  · rw [if_pos c4] at H
    have c4b0 : (a2 == 0) = true := beq_iff_eq.mpr c4
    have c4b1 : (a2 != 0) = false := bne_eq_false_iff_eq.mpr c4
    clear c4
    obtain rfl := Option.some.inj H
    go_enter Try.func21, Try.ntmps21
    go_wp2
    go_ret
    exact ⟨by first | rfl | (simp; done) | (simp [*]; done), by repeat (first | exact Drawn0.refl _ | apply Drawn0.step)⟩
  · rw [if_neg c4] at H
    have c4b0 : (a2 == 0) = false := beq_eq_false_iff_ne.mpr c4
    have c4b1 : (a2 != 0) = true := bne_iff_ne.mpr c4
    by_cases c5 : a0 = 9
    · rw [if_pos c5] at H
      have c5b0 : (a0 == 9) = true := beq_iff_eq.mpr c5
      have c5b1 : (a0 != 9) = false := bne_eq_false_iff_eq.mpr c5
      clear c5
      obtain rfl := Option.some.inj H
      go_enter Try.func21, Try.ntmps21
      go_wp2
      go_ret
      exact ⟨by first | rfl | (simp; done) | (simp [*]; done), by repeat (first | exact Drawn0.refl _ | apply Drawn0.step)⟩
    · rw [if_neg c5] at H
      have c5b0 : (a0 == 9) = false := beq_eq_false_iff_ne.mpr c5
      have c5b1 : (a0 != 9) = true := bne_iff_ne.mpr c5
      obtain rfl := Option.some.inj H
      go_enter Try.func21, Try.ntmps21
      go_wp2
      go_ret
      exact ⟨by first | rfl | (simp; done) | (simp [*]; done), by repeat (first | exact Drawn0.refl _ | apply Drawn0.step)⟩

/-! ### eval_truth: function 22 -/
def eval_truth.f (a0 : Bool) : Option (Int) := if a0 = true then (some 1) else (some 0)
set_option maxHeartbeats 8000000 in
set_option maxRecDepth 100000 in
theorem eval_truth.calls (a0 : Bool) (r : Int) (w : World) (h : eval_truth.f a0 = some r) :
    Calls Try.prog 22 #[.bool a0] w fun e w' => e = .returned (.int .i64 r) ∧ Drawn0 w w' := by
  have H : (if a0 = true then (some 1) else (some 0)) = some r := h
  clear h
  by_cases c2 : a0 = true
  · subst c2
    have H1 : (some 1) = some r := by rw [if_pos rfl] at H; exact H
    clear H
    have H := H1
    clear H1
    obtain rfl := Option.some.inj H
    go_enter Try.func22, Try.ntmps22
    go_wp2
    go_ret
    exact ⟨by first | rfl | (simp; done) | (simp [*]; done), by repeat (first | exact Drawn0.refl _ | apply Drawn0.step)⟩
  · replace c2 := Bool.eq_false_iff.mpr c2
    subst c2
    have H1 : (some 0) = some r := by rw [if_neg (show ¬ (false = true) by decide)] at H; exact H
    clear H
    have H := H1
    clear H1
    obtain rfl := Option.some.inj H
    go_enter Try.func22, Try.ntmps22
    go_wp2
    go_ret
    exact ⟨by first | rfl | (simp; done) | (simp [*]; done), by repeat (first | exact Drawn0.refl _ | apply Drawn0.step)⟩

/-! ### eval_Binary: function 10 -/
def eval_Binary.j0 : Nat → Int → Int → Int → Int → Bool → Option (Int × Bool)
  | 0, _, _, _, _, _ => none
  | k + 1, x0, x1, x2, x8, x24 => if x24 = true then ((eval_divide.f x0 x1 x2).bind fun t101 => (some (t101, true))) else (if x8 = 11 then ((eval_truth.f (x1 == x2)).bind fun t102 => (some (t102, true))) else (if x8 = 12 then ((eval_truth.f (x1 != x2)).bind fun t103 => (some (t103, true))) else (if x8 = 13 then ((eval_truth.f (decide (x1 < x2))).bind fun t104 => (some (t104, true))) else (if x8 = 14 then ((eval_truth.f (decide (x1 ≤ x2))).bind fun t105 => (some (t105, true))) else (if x8 = 15 then ((eval_truth.f (decide (x1 > x2))).bind fun t106 => (some (t106, true))) else (if x8 = 16 then ((eval_truth.f (decide (x1 ≥ x2))).bind fun t107 => (some (t107, true))) else (if x8 = 17 then (if x1 = 0 then ((eval_truth.f false).bind fun t108 => (some (t108, true))) else ((eval_truth.f (x2 != 0)).bind fun t109 => (some (t109, true)))) else (if x8 = 18 then (if x1 = 0 then ((eval_truth.f (x2 != 0)).bind fun t110 => (some (t110, true))) else ((eval_truth.f true).bind fun t111 => (some (t111, true)))) else (some (0, false))))))))))
def eval_Binary.f (k : Nat) (a0 : Int) (a1 : Int) (a2 : Int) : Option (Int × Bool) := if a0 = 6 then (some (wrap64 (a1 + a2), true)) else (if a0 = 7 then (some (wrap64 (a1 - a2), true)) else (if a0 = 8 then (some (wrap64 (a1 * a2), true)) else (if a0 = 9 then (eval_Binary.j0 k a0 a1 a2 a0 (a0 == 9)) else (eval_Binary.j0 k a0 a1 a2 a0 (a0 == 10)))))
theorem eval_Binary.mono_l : ∀ k, (∀ y0 y1 y2 y3 y4, LeO (eval_Binary.j0 k y0 y1 y2 y3 y4) (eval_Binary.j0 (k + 1) y0 y1 y2 y3 y4))
  | 0 => fun _ _ _ _ _ r h => by simp [eval_Binary.j0] at h
  | k + 1 => by
    have ih0 := eval_Binary.mono_l k
    · intro y0 y1 y2 y3 y4
      unfold eval_Binary.j0
      repeat' first
      | (with_reducible exact ih0 _ _ _ _ _)
      | (with_reducible exact LeO.refl _)
      | (with_reducible exact LeO.none _)
      | (with_reducible refine LeO.ite ?_ ?_)
      | (with_reducible refine LeO.bind ?_ (fun _ => ?_))
      | exact ih0 _ _ _ _ _
      | exact LeO.none _
      | refine LeO.ite ?_ ?_
      | refine LeO.bind ?_ (fun _ => ?_)
theorem eval_Binary.mono : ∀ a0 a1 a2 k, LeO (eval_Binary.f k a0 a1 a2) (eval_Binary.f (k + 1) a0 a1 a2) := by
  intro a0 a1 a2 k
  have ih0 := eval_Binary.mono_l k
  unfold eval_Binary.f
  repeat' first
      | (with_reducible exact ih0 _ _ _ _ _)
      | (with_reducible exact LeO.refl _)
      | (with_reducible exact LeO.none _)
      | (with_reducible refine LeO.ite ?_ ?_)
      | (with_reducible refine LeO.bind ?_ (fun _ => ?_))
      | exact ih0 _ _ _ _ _
      | exact LeO.none _
      | refine LeO.ite ?_ ?_
      | refine LeO.bind ?_ (fun _ => ?_)
set_option maxHeartbeats 8000000 in
set_option maxRecDepth 100000 in
theorem eval_Binary.calls (k : Nat) (a0 : Int) (a1 : Int) (a2 : Int) (r1 : Int) (r2 : Bool) (w : World) (h : eval_Binary.f k a0 a1 a2 = some (r1, r2)) :
    Calls Try.prog 10 #[.int .i64 a0, .int .i64 a1, .int .i64 a2] w fun e w' => e = .returned (.tuple #[.int .i64 r1, .bool r2]) ∧ Drawn0 w w' := by
  have H : (if a0 = 6 then (some (wrap64 (a1 + a2), true)) else (if a0 = 7 then (some (wrap64 (a1 - a2), true)) else (if a0 = 8 then (some (wrap64 (a1 * a2), true)) else (if a0 = 9 then (eval_Binary.j0 k a0 a1 a2 a0 (a0 == 9)) else (eval_Binary.j0 k a0 a1 a2 a0 (a0 == 10)))))) = some (r1, r2) := h
  clear h
  by_cases c4 : a0 = 6
  · rw [if_pos c4] at H
    have c4b0 : (a0 == 6) = true := beq_iff_eq.mpr c4
    have c4b1 : (a0 != 6) = false := bne_eq_false_iff_eq.mpr c4
    clear c4
    simp only [Option.some.injEq, Prod.mk.injEq] at H
    obtain ⟨rfl, rfl⟩ := H
    go_enter Try.func10, Try.ntmps10
    go_wp2
    go_ret2
    exact ⟨by first | rfl | (simp; done) | (simp [*]; done), by repeat (first | exact Drawn0.refl _ | apply Drawn0.step)⟩
  · rw [if_neg c4] at H
    have c4b0 : (a0 == 6) = false := beq_eq_false_iff_ne.mpr c4
    have c4b1 : (a0 != 6) = true := bne_iff_ne.mpr c4
    by_cases c5 : a0 = 7
    · rw [if_pos c5] at H
      have c5b0 : (a0 == 7) = true := beq_iff_eq.mpr c5
      have c5b1 : (a0 != 7) = false := bne_eq_false_iff_eq.mpr c5
      clear c5
      simp only [Option.some.injEq, Prod.mk.injEq] at H
      obtain ⟨rfl, rfl⟩ := H
      go_enter Try.func10, Try.ntmps10
      go_wp2
      go_ret2
      exact ⟨by first | rfl | (simp; done) | (simp [*]; done), by repeat (first | exact Drawn0.refl _ | apply Drawn0.step)⟩
    · rw [if_neg c5] at H
      have c5b0 : (a0 == 7) = false := beq_eq_false_iff_ne.mpr c5
      have c5b1 : (a0 != 7) = true := bne_iff_ne.mpr c5
      by_cases c6 : a0 = 8
      · rw [if_pos c6] at H
        have c6b0 : (a0 == 8) = true := beq_iff_eq.mpr c6
        have c6b1 : (a0 != 8) = false := bne_eq_false_iff_eq.mpr c6
        clear c6
        simp only [Option.some.injEq, Prod.mk.injEq] at H
        obtain ⟨rfl, rfl⟩ := H
        go_enter Try.func10, Try.ntmps10
        go_wp2
        go_ret2
        exact ⟨by first | rfl | (simp; done) | (simp [*]; done), by repeat (first | exact Drawn0.refl _ | apply Drawn0.step)⟩
      · rw [if_neg c6] at H
        have c6b0 : (a0 == 8) = false := beq_eq_false_iff_ne.mpr c6
        have c6b1 : (a0 != 8) = true := bne_iff_ne.mpr c6
        have HC7 := Aside0.mk H
        clear H
        go_enter Try.func10, Try.ntmps10
        go_upto_if 24 with (fail)
        go_cut [24] (fun v24 wc => ∃ (kq : Nat) (x24_6 : Bool), v24 = .bool x24_6 ∧ Aside0 (eval_Binary.j0 kq a0 a1 a2 a0 x24_6 = some (r1, r2)) ∧ Aside0 (kq ≤ k) ∧ Drawn0 w wc)
        case first =>
          have H := HC7.out
          clear HC7
          by_cases c8 : a0 = 9
          · rw [if_pos c8] at H
            have c8b0 : (a0 == 9) = true := beq_iff_eq.mpr c8
            have c8b1 : (a0 != 9) = false := bne_eq_false_iff_eq.mpr c8
            clear c8
            (first | rw [c8b0] | (simp only [i64_w, i32_w]; rw [c8b0]) | skip)
            have H' := Aside0.mk H
            clear H
            go_wp2
            go_meet
            case rel => exact ⟨_, ((a0 == 9)), (by first | rfl | (simp; done) | (simp [*]; done)), H', ⟨by first | omega | exact Nat.le_refl _⟩, by repeat (first | exact Drawn0.refl _ | apply Drawn0.step)⟩
          · rw [if_neg c8] at H
            have c8b0 : (a0 == 9) = false := beq_eq_false_iff_ne.mpr c8
            have c8b1 : (a0 != 9) = true := bne_iff_ne.mpr c8
            (first | rw [c8b0] | (simp only [i64_w, i32_w]; rw [c8b0]) | skip)
            have H' := Aside0.mk H
            clear H
            go_wp2
            go_meet
            case rel => exact ⟨_, ((a0 == 10)), (by first | rfl | (simp; done) | (simp [*]; done)), H', ⟨by first | omega | exact Nat.le_refl _⟩, by repeat (first | exact Drawn0.refl _ | apply Drawn0.step)⟩
        case rest =>
          clear HC7
          try clear c1
          try clear p2
          try clear c4
          try clear c4b0
          try clear c4b1
          try clear c5
          try clear c5b0
          try clear c5b1
          try clear c6
          try clear c6b0
          try clear c6b1
          try clear p6
          try clear c8
          try clear c8b0
          try clear c8b1
          obtain ⟨kq, x24_6, rfl, HA, HJ6, ⟨mc6, rfl⟩⟩ := hcut
          cases kq with
          | zero => exact absurd HA.out (by simp [eval_Binary.j0])
          | succ kj6 =>
            have H := HA.out
            clear HA
            simp only [eval_Binary.j0] at H
            by_cases c9 : x24_6 = true
            · subst c9
              have H1 : ((eval_divide.f a0 a1 a2).bind fun t101 => (some (t101, true))) = some (r1, r2) := by rw [if_pos rfl] at H; exact H
              clear H
              have H := H1
              clear H1
              replace H := Option.bind_eq_some_iff.mp H
              obtain ⟨t101, A100, H⟩ := H
              replace H : (some (t101, true)) = some (r1, r2) := H
              have A10 := Aside0.mk A100
              clear A100
              simp only [Option.some.injEq, Prod.mk.injEq] at H
              obtain ⟨rfl, rfl⟩ := H
              go_wp2_with (first | ((with_reducible refine gate_callee (f := 21) rfl ?_); refine goesL_ (some 30) rfl rfl Try.func21 (by kernel_rfl) rfl #[.int .i64 a0, .int .i64 a1, .int .i64 a2] rfl (by (try simp only [List.map_toArray, List.map_cons, List.map_nil]); first | done | rfl | (simp only [List.length_drop, List.length_take]; rfl)) ?_; (with_reducible refine (eval_divide.calls a0 a1 a2 t101 _ A10.out).mono ?_); rintro e w' ⟨rfl, ⟨nd, rfl⟩⟩; refine ⟨_, rfl, ?_⟩))
              go_ret2
              exact ⟨by first | rfl | (simp; done) | (simp [*]; done), by repeat (first | exact Drawn0.refl _ | apply Drawn0.step)⟩
            · replace c9 := Bool.eq_false_iff.mpr c9
              subst c9
              have H1 : (if a0 = 11 then ((eval_truth.f (a1 == a2)).bind fun t102 => (some (t102, true))) else (if a0 = 12 then ((eval_truth.f (a1 != a2)).bind fun t103 => (some (t103, true))) else (if a0 = 13 then ((eval_truth.f (decide (a1 < a2))).bind fun t104 => (some (t104, true))) else (if a0 = 14 then ((eval_truth.f (decide (a1 ≤ a2))).bind fun t105 => (some (t105, true))) else (if a0 = 15 then ((eval_truth.f (decide (a1 > a2))).bind fun t106 => (some (t106, true))) else (if a0 = 16 then ((eval_truth.f (decide (a1 ≥ a2))).bind fun t107 => (some (t107, true))) else (if a0 = 17 then (if a1 = 0 then ((eval_truth.f false).bind fun t108 => (some (t108, true))) else ((eval_truth.f (a2 != 0)).bind fun t109 => (some (t109, true)))) else (if a0 = 18 then (if a1 = 0 then ((eval_truth.f (a2 != 0)).bind fun t110 => (some (t110, true))) else ((eval_truth.f true).bind fun t111 => (some (t111, true)))) else (some (0, false)))))))))) = some (r1, r2) := by rw [if_neg (show ¬ (false = true) by decide)] at H; exact H
              clear H
              have H := H1
              clear H1
              by_cases c11 : a0 = 11
              · rw [if_pos c11] at H
                have c11b0 : (a0 == 11) = true := beq_iff_eq.mpr c11
                have c11b1 : (a0 != 11) = false := bne_eq_false_iff_eq.mpr c11
                clear c11
                replace H := Option.bind_eq_some_iff.mp H
                obtain ⟨t102, A120, H⟩ := H
                replace H : (some (t102, true)) = some (r1, r2) := H
                have A12 := Aside0.mk A120
                clear A120
                simp only [Option.some.injEq, Prod.mk.injEq] at H
                obtain ⟨rfl, rfl⟩ := H
                go_wp2_with (first | ((with_reducible refine gate_callee (f := 22) rfl ?_); refine goesL_ (some 36) rfl rfl Try.func22 (by kernel_rfl) rfl #[.bool (a1 == a2)] rfl (by (try simp only [List.map_toArray, List.map_cons, List.map_nil]); first | done | rfl | (simp only [List.length_drop, List.length_take]; rfl)) ?_; (with_reducible refine (eval_truth.calls (a1 == a2) t102 _ A12.out).mono ?_); rintro e w' ⟨rfl, ⟨nd, rfl⟩⟩; refine ⟨_, rfl, ?_⟩))
                go_ret2
                exact ⟨by first | rfl | (simp; done) | (simp [*]; done), by repeat (first | exact Drawn0.refl _ | apply Drawn0.step)⟩
              · rw [if_neg c11] at H
                have c11b0 : (a0 == 11) = false := beq_eq_false_iff_ne.mpr c11
                have c11b1 : (a0 != 11) = true := bne_iff_ne.mpr c11
                by_cases c13 : a0 = 12
                · rw [if_pos c13] at H
                  have c13b0 : (a0 == 12) = true := beq_iff_eq.mpr c13
                  have c13b1 : (a0 != 12) = false := bne_eq_false_iff_eq.mpr c13
                  clear c13
                  replace H := Option.bind_eq_some_iff.mp H
                  obtain ⟨t103, A140, H⟩ := H
                  replace H : (some (t103, true)) = some (r1, r2) := H
                  have A14 := Aside0.mk A140
                  clear A140
                  simp only [Option.some.injEq, Prod.mk.injEq] at H
                  obtain ⟨rfl, rfl⟩ := H
                  go_wp2_with (first | ((with_reducible refine gate_callee (f := 22) rfl ?_); refine goesL_ (some 42) rfl rfl Try.func22 (by kernel_rfl) rfl #[.bool (a1 != a2)] rfl (by (try simp only [List.map_toArray, List.map_cons, List.map_nil]); first | done | rfl | (simp only [List.length_drop, List.length_take]; rfl)) ?_; (with_reducible refine (eval_truth.calls (a1 != a2) t103 _ A14.out).mono ?_); rintro e w' ⟨rfl, ⟨nd, rfl⟩⟩; refine ⟨_, rfl, ?_⟩))
                  go_ret2
                  exact ⟨by first | rfl | (simp; done) | (simp [*]; done), by repeat (first | exact Drawn0.refl _ | apply Drawn0.step)⟩
                · rw [if_neg c13] at H
                  have c13b0 : (a0 == 12) = false := beq_eq_false_iff_ne.mpr c13
                  have c13b1 : (a0 != 12) = true := bne_iff_ne.mpr c13
                  by_cases c15 : a0 = 13
                  · rw [if_pos c15] at H
                    have c15b0 : (a0 == 13) = true := beq_iff_eq.mpr c15
                    have c15b1 : (a0 != 13) = false := bne_eq_false_iff_eq.mpr c15
                    clear c15
                    replace H := Option.bind_eq_some_iff.mp H
                    obtain ⟨t104, A160, H⟩ := H
                    replace H : (some (t104, true)) = some (r1, r2) := H
                    have A16 := Aside0.mk A160
                    clear A160
                    simp only [Option.some.injEq, Prod.mk.injEq] at H
                    obtain ⟨rfl, rfl⟩ := H
                    go_wp2_with (first | ((with_reducible refine gate_callee (f := 22) rfl ?_); refine goesL_ (some 48) rfl rfl Try.func22 (by kernel_rfl) rfl #[.bool (decide (a1 < a2))] rfl (by (try simp only [List.map_toArray, List.map_cons, List.map_nil]); first | done | rfl | (simp only [List.length_drop, List.length_take]; rfl)) ?_; (with_reducible refine (eval_truth.calls (decide (a1 < a2)) t104 _ A16.out).mono ?_); rintro e w' ⟨rfl, ⟨nd, rfl⟩⟩; refine ⟨_, rfl, ?_⟩))
                    go_ret2
                    exact ⟨by first | rfl | (simp; done) | (simp [*]; done), by repeat (first | exact Drawn0.refl _ | apply Drawn0.step)⟩
                  · rw [if_neg c15] at H
                    have c15b0 : (a0 == 13) = false := beq_eq_false_iff_ne.mpr c15
                    have c15b1 : (a0 != 13) = true := bne_iff_ne.mpr c15
                    by_cases c17 : a0 = 14
                    · rw [if_pos c17] at H
                      have c17b0 : (a0 == 14) = true := beq_iff_eq.mpr c17
                      have c17b1 : (a0 != 14) = false := bne_eq_false_iff_eq.mpr c17
                      clear c17
                      replace H := Option.bind_eq_some_iff.mp H
                      obtain ⟨t105, A180, H⟩ := H
                      replace H : (some (t105, true)) = some (r1, r2) := H
                      have A18 := Aside0.mk A180
                      clear A180
                      simp only [Option.some.injEq, Prod.mk.injEq] at H
                      obtain ⟨rfl, rfl⟩ := H
                      go_wp2_with (first | ((with_reducible refine gate_callee (f := 22) rfl ?_); refine goesL_ (some 54) rfl rfl Try.func22 (by kernel_rfl) rfl #[.bool (decide (a1 ≤ a2))] rfl (by (try simp only [List.map_toArray, List.map_cons, List.map_nil]); first | done | rfl | (simp only [List.length_drop, List.length_take]; rfl)) ?_; (with_reducible refine (eval_truth.calls (decide (a1 ≤ a2)) t105 _ A18.out).mono ?_); rintro e w' ⟨rfl, ⟨nd, rfl⟩⟩; refine ⟨_, rfl, ?_⟩))
                      go_ret2
                      exact ⟨by first | rfl | (simp; done) | (simp [*]; done), by repeat (first | exact Drawn0.refl _ | apply Drawn0.step)⟩
                    · rw [if_neg c17] at H
                      have c17b0 : (a0 == 14) = false := beq_eq_false_iff_ne.mpr c17
                      have c17b1 : (a0 != 14) = true := bne_iff_ne.mpr c17
                      by_cases c19 : a0 = 15
                      · rw [if_pos c19] at H
                        have c19b0 : (a0 == 15) = true := beq_iff_eq.mpr c19
                        have c19b1 : (a0 != 15) = false := bne_eq_false_iff_eq.mpr c19
                        clear c19
                        replace H := Option.bind_eq_some_iff.mp H
                        obtain ⟨t106, A200, H⟩ := H
                        replace H : (some (t106, true)) = some (r1, r2) := H
                        have A20 := Aside0.mk A200
                        clear A200
                        simp only [Option.some.injEq, Prod.mk.injEq] at H
                        obtain ⟨rfl, rfl⟩ := H
                        go_wp2_with (first | ((with_reducible refine gate_callee (f := 22) rfl ?_); refine goesL_ (some 60) rfl rfl Try.func22 (by kernel_rfl) rfl #[.bool (decide (a1 > a2))] rfl (by (try simp only [List.map_toArray, List.map_cons, List.map_nil]); first | done | rfl | (simp only [List.length_drop, List.length_take]; rfl)) ?_; (with_reducible refine (eval_truth.calls (decide (a1 > a2)) t106 _ A20.out).mono ?_); rintro e w' ⟨rfl, ⟨nd, rfl⟩⟩; refine ⟨_, rfl, ?_⟩))
                        go_ret2
                        exact ⟨by first | rfl | (simp; done) | (simp [*]; done), by repeat (first | exact Drawn0.refl _ | apply Drawn0.step)⟩
                      · rw [if_neg c19] at H
                        have c19b0 : (a0 == 15) = false := beq_eq_false_iff_ne.mpr c19
                        have c19b1 : (a0 != 15) = true := bne_iff_ne.mpr c19
                        by_cases c21 : a0 = 16
                        · rw [if_pos c21] at H
                          have c21b0 : (a0 == 16) = true := beq_iff_eq.mpr c21
                          have c21b1 : (a0 != 16) = false := bne_eq_false_iff_eq.mpr c21
                          clear c21
                          replace H := Option.bind_eq_some_iff.mp H
                          obtain ⟨t107, A220, H⟩ := H
                          replace H : (some (t107, true)) = some (r1, r2) := H
                          have A22 := Aside0.mk A220
                          clear A220
                          simp only [Option.some.injEq, Prod.mk.injEq] at H
                          obtain ⟨rfl, rfl⟩ := H
                          go_wp2_with (first | ((with_reducible refine gate_callee (f := 22) rfl ?_); refine goesL_ (some 66) rfl rfl Try.func22 (by kernel_rfl) rfl #[.bool (decide (a1 ≥ a2))] rfl (by (try simp only [List.map_toArray, List.map_cons, List.map_nil]); first | done | rfl | (simp only [List.length_drop, List.length_take]; rfl)) ?_; (with_reducible refine (eval_truth.calls (decide (a1 ≥ a2)) t107 _ A22.out).mono ?_); rintro e w' ⟨rfl, ⟨nd, rfl⟩⟩; refine ⟨_, rfl, ?_⟩))
                          go_ret2
                          exact ⟨by first | rfl | (simp; done) | (simp [*]; done), by repeat (first | exact Drawn0.refl _ | apply Drawn0.step)⟩
                        · rw [if_neg c21] at H
                          have c21b0 : (a0 == 16) = false := beq_eq_false_iff_ne.mpr c21
                          have c21b1 : (a0 != 16) = true := bne_iff_ne.mpr c21
                          by_cases c23 : a0 = 17
                          · rw [if_pos c23] at H
                            have c23b0 : (a0 == 17) = true := beq_iff_eq.mpr c23
                            have c23b1 : (a0 != 17) = false := bne_eq_false_iff_eq.mpr c23
                            clear c23
                            by_cases c24 : a1 = 0
                            · rw [if_pos c24] at H
                              have c24b0 : (a1 == 0) = true := beq_iff_eq.mpr c24
                              have c24b1 : (a1 != 0) = false := bne_eq_false_iff_eq.mpr c24
                              clear c24
                              replace H := Option.bind_eq_some_iff.mp H
                              obtain ⟨t108, A250, H⟩ := H
                              replace H : (some (t108, true)) = some (r1, r2) := H
                              have A25 := Aside0.mk A250
                              clear A250
                              simp only [Option.some.injEq, Prod.mk.injEq] at H
                              obtain ⟨rfl, rfl⟩ := H
                              go_wp2_with (first | ((with_reducible refine gate_callee (f := 22) rfl ?_); refine goesL_ (some 75) rfl rfl Try.func22 (by kernel_rfl) rfl #[.bool false] rfl (by (try simp only [List.map_toArray, List.map_cons, List.map_nil]); first | done | rfl | (simp only [List.length_drop, List.length_take]; rfl)) ?_; (with_reducible refine (eval_truth.calls false t108 _ A25.out).mono ?_); rintro e w' ⟨rfl, ⟨nd, rfl⟩⟩; refine ⟨_, rfl, ?_⟩))
                              go_ret2
                              exact ⟨by first | rfl | (simp; done) | (simp [*]; done), by repeat (first | exact Drawn0.refl _ | apply Drawn0.step)⟩
                            · rw [if_neg c24] at H
                              have c24b0 : (a1 == 0) = false := beq_eq_false_iff_ne.mpr c24
                              have c24b1 : (a1 != 0) = true := bne_iff_ne.mpr c24
                              replace H := Option.bind_eq_some_iff.mp H
                              obtain ⟨t109, A260, H⟩ := H
                              replace H : (some (t109, true)) = some (r1, r2) := H
                              have A26 := Aside0.mk A260
                              clear A260
                              simp only [Option.some.injEq, Prod.mk.injEq] at H
                              obtain ⟨rfl, rfl⟩ := H
                              go_wp2_with (first | ((with_reducible refine gate_callee (f := 22) rfl ?_); refine goesL_ (some 75) rfl rfl Try.func22 (by kernel_rfl) rfl #[.bool (a2 != 0)] rfl (by (try simp only [List.map_toArray, List.map_cons, List.map_nil]); first | done | rfl | (simp only [List.length_drop, List.length_take]; rfl)) ?_; (with_reducible refine (eval_truth.calls (a2 != 0) t109 _ A26.out).mono ?_); rintro e w' ⟨rfl, ⟨nd, rfl⟩⟩; refine ⟨_, rfl, ?_⟩))
                              go_ret2
                              exact ⟨by first | rfl | (simp; done) | (simp [*]; done), by repeat (first | exact Drawn0.refl _ | apply Drawn0.step)⟩
                          · rw [if_neg c23] at H
                            have c23b0 : (a0 == 17) = false := beq_eq_false_iff_ne.mpr c23
                            have c23b1 : (a0 != 17) = true := bne_iff_ne.mpr c23
                            by_cases c27 : a0 = 18
                            · rw [if_pos c27] at H
                              have c27b0 : (a0 == 18) = true := beq_iff_eq.mpr c27
                              have c27b1 : (a0 != 18) = false := bne_eq_false_iff_eq.mpr c27
                              clear c27
                              by_cases c28 : a1 = 0
                              · rw [if_pos c28] at H
                                have c28b0 : (a1 == 0) = true := beq_iff_eq.mpr c28
                                have c28b1 : (a1 != 0) = false := bne_eq_false_iff_eq.mpr c28
                                clear c28
                                replace H := Option.bind_eq_some_iff.mp H
                                obtain ⟨t110, A290, H⟩ := H
                                replace H : (some (t110, true)) = some (r1, r2) := H
                                have A29 := Aside0.mk A290
                                clear A290
                                simp only [Option.some.injEq, Prod.mk.injEq] at H
                                obtain ⟨rfl, rfl⟩ := H
                                go_wp2_with (first | ((with_reducible refine gate_callee (f := 22) rfl ?_); refine goesL_ (some 84) rfl rfl Try.func22 (by kernel_rfl) rfl #[.bool (a2 != 0)] rfl (by (try simp only [List.map_toArray, List.map_cons, List.map_nil]); first | done | rfl | (simp only [List.length_drop, List.length_take]; rfl)) ?_; (with_reducible refine (eval_truth.calls (a2 != 0) t110 _ A29.out).mono ?_); rintro e w' ⟨rfl, ⟨nd, rfl⟩⟩; refine ⟨_, rfl, ?_⟩))
                                go_ret2
                                exact ⟨by first | rfl | (simp; done) | (simp [*]; done), by repeat (first | exact Drawn0.refl _ | apply Drawn0.step)⟩
                              · rw [if_neg c28] at H
                                have c28b0 : (a1 == 0) = false := beq_eq_false_iff_ne.mpr c28
                                have c28b1 : (a1 != 0) = true := bne_iff_ne.mpr c28
                                replace H := Option.bind_eq_some_iff.mp H
                                obtain ⟨t111, A300, H⟩ := H
                                replace H : (some (t111, true)) = some (r1, r2) := H
                                have A30 := Aside0.mk A300
                                clear A300
                                simp only [Option.some.injEq, Prod.mk.injEq] at H
                                obtain ⟨rfl, rfl⟩ := H
                                go_wp2_with (first | ((with_reducible refine gate_callee (f := 22) rfl ?_); refine goesL_ (some 84) rfl rfl Try.func22 (by kernel_rfl) rfl #[.bool true] rfl (by (try simp only [List.map_toArray, List.map_cons, List.map_nil]); first | done | rfl | (simp only [List.length_drop, List.length_take]; rfl)) ?_; (with_reducible refine (eval_truth.calls true t111 _ A30.out).mono ?_); rintro e w' ⟨rfl, ⟨nd, rfl⟩⟩; refine ⟨_, rfl, ?_⟩))
                                go_ret2
                                exact ⟨by first | rfl | (simp; done) | (simp [*]; done), by repeat (first | exact Drawn0.refl _ | apply Drawn0.step)⟩
                            · rw [if_neg c27] at H
                              have c27b0 : (a0 == 18) = false := beq_eq_false_iff_ne.mpr c27
                              have c27b1 : (a0 != 18) = true := bne_iff_ne.mpr c27
                              simp only [Option.some.injEq, Prod.mk.injEq] at H
                              obtain ⟨rfl, rfl⟩ := H
                              go_wp2
                              go_ret2
                              exact ⟨by first | rfl | (simp; done) | (simp [*]; done), by repeat (first | exact Drawn0.refl _ | apply Drawn0.step)⟩

end Go.Proofs.Ytgoefoilghjfhaa.PEvalQuotients
