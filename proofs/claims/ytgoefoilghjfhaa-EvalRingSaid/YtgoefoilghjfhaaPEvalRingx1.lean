-- PRINTED BY print.sh 35421559b90ae4d0a3588c463048766b98c2df88dd9212a6774a882060cdf62d: not written by this session
import Derived.Test.YtgoefoilghjfhaaPEvalRingx0
namespace Go.Proofs.Ytgoefoilghjfhaa.PEvalRing
open Go.RowKit Go.Proofs.YtgoefoilghjfhaaW.PrintWords Go.Proofs.YtgoefoilghjfhaaW.PrintLast Go.Proofs.YtgoefoilghjfhaaW.PrintMore
attribute [local go_sem] max2_int min2_int max_two min_two max_three min_three max_four min_four   -- for this text's walks alone
set_option linter.unusedVariables false
set_option linter.unusedSimpArgs false

/-! ### eval_divide: function 21 -/
def eval_divide.f (a0 : Int) (a1 : Int) (a2 : Int) : Option (Int) := if a2 = 0 then (some 0) else (if a0 = 9 then (some (wrap64 (Int.tdiv a1 a2))) else (some (Int.tmod a1 a2)))
set_option maxHeartbeats 8000000 in
set_option maxRecDepth 100000 in
theorem eval_divide.calls (a0 : Int) (a1 : Int) (a2 : Int) (r : Int) (w : World) (h : eval_divide.f a0 a1 a2 = some r) :
    Calls Try.prog 21 #[.int .i64 a0, .int .i64 a1, .int .i64 a2] w fun e w' => e = .returned (.int .i64 r) ∧ Drawn0 w w' := by
  have H : (if a2 = 0 then (some 0) else (if a0 = 9 then (some (wrap64 (Int.tdiv a1 a2))) else (some (Int.tmod a1 a2)))) = some r := h
  clear h
  by_cases c4 : a2 = 0
  · rw [if_pos c4] at H
    have c4b0 : (a2 == 0) = true := beq_iff_eq.mpr c4
    have c4b1 : (a2 != 0) = false := bne_eq_false_iff_eq.mpr c4
    clear c4
    obtain rfl := Option.some.inj H
    go_enter Try.func21, Try.ntmps21
    go_wp2
    go_ret
    exact ⟨by first | rfl | (simp; done) | (simp [*]; done), by repeat (first | exact Drawn0.refl _ | apply Drawn0.step)⟩
  · rw [if_neg c4] at H
    have c4b0 : (a2 == 0) = false := beq_eq_false_iff_ne.mpr c4
    have c4b1 : (a2 != 0) = true := bne_iff_ne.mpr c4
    by_cases c5 : a0 = 9
    · rw [if_pos c5] at H
      have c5b0 : (a0 == 9) = true := beq_iff_eq.mpr c5
      have c5b1 : (a0 != 9) = false := bne_eq_false_iff_eq.mpr c5
      clear c5
      obtain rfl := Option.some.inj H
      go_enter Try.func21, Try.ntmps21
      go_wp2
      go_ret
      exact ⟨by first | rfl | (simp; done) | (simp [*]; done), by repeat (first | exact Drawn0.refl _ | apply Drawn0.step)⟩
    · rw [if_neg c5] at H
      have c5b0 : (a0 == 9) = false := beq_eq_false_iff_ne.mpr c5
      have c5b1 : (a0 != 9) = true := bne_iff_ne.mpr c5
      obtain rfl := Option.some.inj H
      go_enter Try.func21, Try.ntmps21
      go_wp2
      go_ret
      exact ⟨by first | rfl | (simp; done) | (simp [*]; done), by repeat (first | exact Drawn0.refl _ | apply Drawn0.step)⟩

/-! ### eval_truth: function 22 -/
def eval_truth.f (a0 : Bool) : Option (Int) := if a0 = true then (some 1) else (some 0)
set_option maxHeartbeats 8000000 in
set_option maxRecDepth 100000 in
theorem eval_truth.calls (a0 : Bool) (r : Int) (w : World) (h : eval_truth.f a0 = some r) :
    Calls Try.prog 22 #[.bool a0] w fun e w' => e = .returned (.int .i64 r) ∧ Drawn0 w w' := by
  have H : (if a0 = true then (some 1) else (some 0)) = some r := h
  clear h
  by_cases c2 : a0 = true
  · subst c2
    have H1 : (some 1) = some r := by rw [if_pos rfl] at H; exact H
    clear H
    have H := H1
    clear H1
    obtain rfl := Option.some.inj H
    go_enter Try.func22, Try.ntmps22
    go_wp2
    go_ret
    exact ⟨by first | rfl | (simp; done) | (simp [*]; done), by repeat (first | exact Drawn0.refl _ | apply Drawn0.step)⟩
  · replace c2 := Bool.eq_false_iff.mpr c2
    subst c2
    have H1 : (some 0) = some r := by rw [if_neg (show ¬ (false = true) by decide)] at H; exact H
    clear H
    have H := H1
    clear H1
    obtain rfl := Option.some.inj H
    go_enter Try.func22, Try.ntmps22
    go_wp2
    go_ret
    exact ⟨by first | rfl | (simp; done) | (simp [*]; done), by repeat (first | exact Drawn0.refl _ | apply Drawn0.step)⟩

/-! ### eval_Binary: function 10 -/
def eval_Binary.j0 : Nat → Int → Int → Int → Int → Bool → Option (Int × Bool)
  | 0, _, _, _, _, _ => none
  | k + 1, x0, x1, x2, x8, x24 => if x24 = true then ((eval_divide.f x0 x1 x2).bind fun t101 => (some (t101, true))) else (if x8 = 11 then ((eval_truth.f (x1 == x2)).bind fun t102 => (some (t102, true))) else (if x8 = 12 then ((eval_truth.f (x1 != x2)).bind fun t103 => (some (t103, true))) else (if x8 = 13 then ((eval_truth.f (decide (x1 < x2))).bind fun t104 => (some (t104, true))) else (if x8 = 14 then ((eval_truth.f (decide (x1 ≤ x2))).bind fun t105 => (some (t105, true))) else (if x8 = 15 then ((eval_truth.f (decide (x1 > x2))).bind fun t106 => (some (t106, true))) else (if x8 = 16 then ((eval_truth.f (decide (x1 ≥ x2))).bind fun t107 => (some (t107, true))) else (if x8 = 17 then (if x1 = 0 then ((eval_truth.f false).bind fun t108 => (some (t108, true))) else ((eval_truth.f (x2 != 0)).bind fun t109 => (some (t109, true)))) else (if x8 = 18 then (if x1 = 0 then ((eval_truth.f (x2 != 0)).bind fun t110 => (some (t110, true))) else ((eval_truth.f true).bind fun t111 => (some (t111, true)))) else (some (0, false))))))))))
def eval_Binary.f (k : Nat) (a0 : Int) (a1 : Int) (a2 : Int) : Option (Int × Bool) := if a0 = 6 then (some (wrap64 (a1 + a2), true)) else (if a0 = 7 then (some (wrap64 (a1 - a2), true)) else (if a0 = 8 then (some (wrap64 (a1 * a2), true)) else (if a0 = 9 then (eval_Binary.j0 k a0 a1 a2 a0 (a0 == 9)) else (eval_Binary.j0 k a0 a1 a2 a0 (a0 == 10)))))
theorem eval_Binary.mono_l : ∀ k, (∀ y0 y1 y2 y3 y4, LeO (eval_Binary.j0 k y0 y1 y2 y3 y4) (eval_Binary.j0 (k + 1) y0 y1 y2 y3 y4))
  | 0 => fun _ _ _ _ _ r h => by simp [eval_Binary.j0] at h
  | k + 1 => by
    have ih0 := eval_Binary.mono_l k
    · intro y0 y1 y2 y3 y4
      unfold eval_Binary.j0
      repeat' first
      | (with_reducible exact ih0 _ _ _ _ _)
      | (with_reducible exact LeO.refl _)
      | (with_reducible exact LeO.none _)
      | (with_reducible refine LeO.ite ?_ ?_)
      | (with_reducible refine LeO.bind ?_ (fun _ => ?_))
      | exact ih0 _ _ _ _ _
      | exact LeO.none _
      | refine LeO.ite ?_ ?_
      | refine LeO.bind ?_ (fun _ => ?_)
theorem eval_Binary.mono : ∀ a0 a1 a2 k, LeO (eval_Binary.f k a0 a1 a2) (eval_Binary.f (k + 1) a0 a1 a2) := by
  intro a0 a1 a2 k
  have ih0 := eval_Binary.mono_l k
  unfold eval_Binary.f
  repeat' first
      | (with_reducible exact ih0 _ _ _ _ _)
      | (with_reducible exact LeO.refl _)
      | (with_reducible exact LeO.none _)
      | (with_reducible refine LeO.ite ?_ ?_)
      | (with_reducible refine LeO.bind ?_ (fun _ => ?_))
      | exact ih0 _ _ _ _ _
      | exact LeO.none _
      | refine LeO.ite ?_ ?_
      | refine LeO.bind ?_ (fun _ => ?_)
set_option maxHeartbeats 8000000 in
set_option maxRecDepth 100000 in
theorem eval_Binary.calls (k : Nat) (a0 : Int) (a1 : Int) (a2 : Int) (r1 : Int) (r2 : Bool) (w : World) (h : eval_Binary.f k a0 a1 a2 = some (r1, r2)) :
    Calls Try.prog 10 #[.int .i64 a0, .int .i64 a1, .int .i64 a2] w fun e w' => e = .returned (.tuple #[.int .i64 r1, .bool r2]) ∧ Drawn0 w w' := by
  have H : (if a0 = 6 then (some (wrap64 (a1 + a2), true)) else (if a0 = 7 then (some (wrap64 (a1 - a2), true)) else (if a0 = 8 then (some (wrap64 (a1 * a2), true)) else (if a0 = 9 then (eval_Binary.j0 k a0 a1 a2 a0 (a0 == 9)) else (eval_Binary.j0 k a0 a1 a2 a0 (a0 == 10)))))) = some (r1, r2) := h
  clear h
  by_cases c4 : a0 = 6
  · rw [if_pos c4] at H
    have c4b0 : (a0 == 6) = true := beq_iff_eq.mpr c4
    have c4b1 : (a0 != 6) = false := bne_eq_false_iff_eq.mpr c4
    clear c4
    simp only [Option.some.injEq, Prod.mk.injEq] at H
    obtain ⟨rfl, rfl⟩ := H
    go_enter Try.func10, Try.ntmps10
    go_wp2
    go_ret2
    exact ⟨by first | rfl | (simp; done) | (simp [*]; done), by repeat (first | exact Drawn0.refl _ | apply Drawn0.step)⟩
  · rw [if_neg c4] at H
    have c4b0 : (a0 == 6) = false := beq_eq_false_iff_ne.mpr c4
    have c4b1 : (a0 != 6) = true := bne_iff_ne.mpr c4
    by_cases c5 : a0 = 7
    · rw [if_pos c5] at H
      have c5b0 : (a0 == 7) = true := beq_iff_eq.mpr c5
      have c5b1 : (a0 != 7) = false := bne_eq_false_iff_eq.mpr c5
      clear c5
      simp only [Option.some.injEq, Prod.mk.injEq] at H
      obtain ⟨rfl, rfl⟩ := H
      go_enter Try.func10, Try.ntmps10
      go_wp2
      go_ret2
      exact ⟨by first | rfl | (simp; done) | (simp [*]; done), by repeat (first | exact Drawn0.refl _ | apply Drawn0.step)⟩
    · rw [if_neg c5] at H
      have c5b0 : (a0 == 7) = false := beq_eq_false_iff_ne.mpr c5
      have c5b1 : (a0 != 7) = true := bne_iff_ne.mpr c5
      by_cases c6 : a0 = 8
      · rw [if_pos c6] at H
        have c6b0 : (a0 == 8) = true := beq_iff_eq.mpr c6
        have c6b1 : (a0 != 8) = false := bne_eq_false_iff_eq.mpr c6
        clear c6
        simp only [Option.some.injEq, Prod.mk.injEq] at H
        obtain ⟨rfl, rfl⟩ := H
        go_enter Try.func10, Try.ntmps10
        go_wp2
        go_ret2
        exact ⟨by first | rfl | (simp; done) | (simp [*]; done), by repeat (first | exact Drawn0.refl _ | apply Drawn0.step)⟩
      · rw [if_neg c6] at H
        have c6b0 : (a0 == 8) = false := beq_eq_false_iff_ne.mpr c6
        have c6b1 : (a0 != 8) = true := bne_iff_ne.mpr c6
        have HC7 := Aside0.mk H
        clear H
        go_enter Try.func10, Try.ntmps10
        go_upto_if 24 with (fail)
        go_cut [24] (fun v24 wc => ∃ (kq : Nat) (x24_6 : Bool), v24 = .bool x24_6 ∧ Aside0 (eval_Binary.j0 kq a0 a1 a2 a0 x24_6 = some (r1, r2)) ∧ Aside0 (kq ≤ k) ∧ Drawn0 w wc)
        case first =>
          have H := HC7.out
          clear HC7
          by_cases c8 : a0 = 9
          · rw [if_pos c8] at H
            have c8b0 : (a0 == 9) = true := beq_iff_eq.mpr c8
            have c8b1 : (a0 != 9) = false := bne_eq_false_iff_eq.mpr c8
            clear c8
            (first | rw [c8b0] | (simp only [i64_w, i32_w]; rw [c8b0]) | skip)
            have H' := Aside0.mk H
            clear H
            go_wp2
            go_meet
            case rel => exact ⟨_, ((a0 == 9)), (by first | rfl | (simp; done) | (simp [*]; done)), H', ⟨by first | omega | exact Nat.le_refl _⟩, by repeat (first | exact Drawn0.refl _ | apply Drawn0.step)⟩
          · rw [if_neg c8] at H
            have c8b0 : (a0 == 9) = false := beq_eq_false_iff_ne.mpr c8
            have c8b1 : (a0 != 9) = true := bne_iff_ne.mpr c8
            (first | rw [c8b0] | (simp only [i64_w, i32_w]; rw [c8b0]) | skip)
            have H' := Aside0.mk H
            clear H
            go_wp2
            go_meet
            case rel => exact ⟨_, ((a0 == 10)), (by first | rfl | (simp; done) | (simp [*]; done)), H', ⟨by first | omega | exact Nat.le_refl _⟩, by repeat (first | exact Drawn0.refl _ | apply Drawn0.step)⟩
        case rest =>
          clear HC7
          try clear c1
          try clear p2
          try clear c4
          try clear c4b0
          try clear c4b1
          try clear c5
          try clear c5b0
          try clear c5b1
          try clear c6
          try clear c6b0
          try clear c6b1
          try clear p6
          try clear c8
          try clear c8b0
          try clear c8b1
          obtain ⟨kq, x24_6, rfl, HA, HJ6, ⟨mc6, rfl⟩⟩ := hcut
          cases kq with
          | zero => exact absurd HA.out (by simp [eval_Binary.j0])
          | succ kj6 =>
            have H := HA.out
            clear HA
            simp only [eval_Binary.j0] at H
            by_cases c9 : x24_6 = true
            · subst c9
              have H1 : ((eval_divide.f a0 a1 a2).bind fun t101 => (some (t101, true))) = some (r1, r2) := by rw [if_pos rfl] at H; exact H
              clear H
              have H := H1
              clear H1
              replace H := Option.bind_eq_some_iff.mp H
              obtain ⟨t101, A100, H⟩ := H
              replace H : (some (t101, true)) = some (r1, r2) := H
              have A10 := Aside0.mk A100
              clear A100
              simp only [Option.some.injEq, Prod.mk.injEq] at H
              obtain ⟨rfl, rfl⟩ := H
              go_wp2_with (first | ((with_reducible refine gate_callee (f := 21) rfl ?_); refine goesL_ (some 30) rfl rfl Try.func21 (by kernel_rfl) rfl #[.int .i64 a0, .int .i64 a1, .int .i64 a2] rfl (by (try simp only [List.map_toArray, List.map_cons, List.map_nil]); first | done | rfl | (simp only [List.length_drop, List.length_take]; rfl)) ?_; (with_reducible refine (eval_divide.calls a0 a1 a2 t101 _ A10.out).mono ?_); rintro e w' ⟨rfl, ⟨nd, rfl⟩⟩; refine ⟨_, rfl, ?_⟩))
              go_ret2
              exact ⟨by first | rfl | (simp; done) | (simp [*]; done), by repeat (first | exact Drawn0.refl _ | apply Drawn0.step)⟩
            · replace c9 := Bool.eq_false_iff.mpr c9
              subst c9
              have H1 : (if a0 = 11 then ((eval_truth.f (a1 == a2)).bind fun t102 => (some (t102, true))) else (if a0 = 12 then ((eval_truth.f (a1 != a2)).bind fun t103 => (some (t103, true))) else (if a0 = 13 then ((eval_truth.f (decide (a1 < a2))).bind fun t104 => (some (t104, true))) else (if a0 = 14 then ((eval_truth.f (decide (a1 ≤ a2))).bind fun t105 => (some (t105, true))) else (if a0 = 15 then ((eval_truth.f (decide (a1 > a2))).bind fun t106 => (some (t106, true))) else (if a0 = 16 then ((eval_truth.f (decide (a1 ≥ a2))).bind fun t107 => (some (t107, true))) else (if a0 = 17 then (if a1 = 0 then ((eval_truth.f false).bind fun t108 => (some (t108, true))) else ((eval_truth.f (a2 != 0)).bind fun t109 => (some (t109, true)))) else (if a0 = 18 then (if a1 = 0 then ((eval_truth.f (a2 != 0)).bind fun t110 => (some (t110, true))) else ((eval_truth.f true).bind fun t111 => (some (t111, true)))) else (some (0, false)))))))))) = some (r1, r2) := by rw [if_neg (show ¬ (false = true) by decide)] at H; exact H
              clear H
              have H := H1
              clear H1
              by_cases c11 : a0 = 11
              · rw [if_pos c11] at H
                have c11b0 : (a0 == 11) = true := beq_iff_eq.mpr c11
                have c11b1 : (a0 != 11) = false := bne_eq_false_iff_eq.mpr c11
                clear c11
                replace H := Option.bind_eq_some_iff.mp H
                obtain ⟨t102, A120, H⟩ := H
                replace H : (some (t102, true)) = some (r1, r2) := H
                have A12 := Aside0.mk A120
                clear A120
                simp only [Option.some.injEq, Prod.mk.injEq] at H
                obtain ⟨rfl, rfl⟩ := H
                go_wp2_with (first | ((with_reducible refine gate_callee (f := 22) rfl ?_); refine goesL_ (some 36) rfl rfl Try.func22 (by kernel_rfl) rfl #[.bool (a1 == a2)] rfl (by (try simp only [List.map_toArray, List.map_cons, List.map_nil]); first | done | rfl | (simp only [List.length_drop, List.length_take]; rfl)) ?_; (with_reducible refine (eval_truth.calls (a1 == a2) t102 _ A12.out).mono ?_); rintro e w' ⟨rfl, ⟨nd, rfl⟩⟩; refine ⟨_, rfl, ?_⟩))
                go_ret2
                exact ⟨by first | rfl | (simp; done) | (simp [*]; done), by repeat (first | exact Drawn0.refl _ | apply Drawn0.step)⟩
              · rw [if_neg c11] at H
                have c11b0 : (a0 == 11) = false := beq_eq_false_iff_ne.mpr c11
                have c11b1 : (a0 != 11) = true := bne_iff_ne.mpr c11
                by_cases c13 : a0 = 12
                · rw [if_pos c13] at H
                  have c13b0 : (a0 == 12) = true := beq_iff_eq.mpr c13
                  have c13b1 : (a0 != 12) = false := bne_eq_false_iff_eq.mpr c13
                  clear c13
                  replace H := Option.bind_eq_some_iff.mp H
                  obtain ⟨t103, A140, H⟩ := H
                  replace H : (some (t103, true)) = some (r1, r2) := H
                  have A14 := Aside0.mk A140
                  clear A140
                  simp only [Option.some.injEq, Prod.mk.injEq] at H
                  obtain ⟨rfl, rfl⟩ := H
                  go_wp2_with (first | ((with_reducible refine gate_callee (f := 22) rfl ?_); refine goesL_ (some 42) rfl rfl Try.func22 (by kernel_rfl) rfl #[.bool (a1 != a2)] rfl (by (try simp only [List.map_toArray, List.map_cons, List.map_nil]); first | done | rfl | (simp only [List.length_drop, List.length_take]; rfl)) ?_; (with_reducible refine (eval_truth.calls (a1 != a2) t103 _ A14.out).mono ?_); rintro e w' ⟨rfl, ⟨nd, rfl⟩⟩; refine ⟨_, rfl, ?_⟩))
                  go_ret2
                  exact ⟨by first | rfl | (simp; done) | (simp [*]; done), by repeat (first | exact Drawn0.refl _ | apply Drawn0.step)⟩
                · rw [if_neg c13] at H
                  have c13b0 : (a0 == 12) = false := beq_eq_false_iff_ne.mpr c13
                  have c13b1 : (a0 != 12) = true := bne_iff_ne.mpr c13
                  by_cases c15 : a0 = 13
                  · rw [if_pos c15] at H
                    have c15b0 : (a0 == 13) = true := beq_iff_eq.mpr c15
                    have c15b1 : (a0 != 13) = false := bne_eq_false_iff_eq.mpr c15
                    clear c15
                    replace H := Option.bind_eq_some_iff.mp H
                    obtain ⟨t104, A160, H⟩ := H
                    replace H : (some (t104, true)) = some (r1, r2) := H
                    have A16 := Aside0.mk A160
                    clear A160
                    simp only [Option.some.injEq, Prod.mk.injEq] at H
                    obtain ⟨rfl, rfl⟩ := H
                    go_wp2_with (first | ((with_reducible refine gate_callee (f := 22) rfl ?_); refine goesL_ (some 48) rfl rfl Try.func22 (by kernel_rfl) rfl #[.bool (decide (a1 < a2))] rfl (by (try simp only [List.map_toArray, List.map_cons, List.map_nil]); first | done | rfl | (simp only [List.length_drop, List.length_take]; rfl)) ?_; (with_reducible refine (eval_truth.calls (decide (a1 < a2)) t104 _ A16.out).mono ?_); rintro e w' ⟨rfl, ⟨nd, rfl⟩⟩; refine ⟨_, rfl, ?_⟩))
                    go_ret2
                    exact ⟨by first | rfl | (simp; done) | (simp [*]; done), by repeat (first | exact Drawn0.refl _ | apply Drawn0.step)⟩
                  · rw [if_neg c15] at H
                    have c15b0 : (a0 == 13) = false := beq_eq_false_iff_ne.mpr c15
                    have c15b1 : (a0 != 13) = true := bne_iff_ne.mpr c15
                    by_cases c17 : a0 = 14
                    · rw [if_pos c17] at H
                      have c17b0 : (a0 == 14) = true := beq_iff_eq.mpr c17
                      have c17b1 : (a0 != 14) = false := bne_eq_false_iff_eq.mpr c17
                      clear c17
                      replace H := Option.bind_eq_some_iff.mp H
                      obtain ⟨t105, A180, H⟩ := H
                      replace H : (some (t105, true)) = some (r1, r2) := H
                      have A18 := Aside0.mk A180
                      clear A180
                      simp only [Option.some.injEq, Prod.mk.injEq] at H
                      obtain ⟨rfl, rfl⟩ := H
                      go_wp2_with (first | ((with_reducible refine gate_callee (f := 22) rfl ?_); refine goesL_ (some 54) rfl rfl Try.func22 (by kernel_rfl) rfl #[.bool (decide (a1 ≤ a2))] rfl (by (try simp only [List.map_toArray, List.map_cons, List.map_nil]); first | done | rfl | (simp only [List.length_drop, List.length_take]; rfl)) ?_; (with_reducible refine (eval_truth.calls (decide (a1 ≤ a2)) t105 _ A18.out).mono ?_); rintro e w' ⟨rfl, ⟨nd, rfl⟩⟩; refine ⟨_, rfl, ?_⟩))
                      go_ret2
                      exact ⟨by first | rfl | (simp; done) | (simp [*]; done), by repeat (first | exact Drawn0.refl _ | apply Drawn0.step)⟩
                    · rw [if_neg c17] at H
                      have c17b0 : (a0 == 14) = false := beq_eq_false_iff_ne.mpr c17
                      have c17b1 : (a0 != 14) = true := bne_iff_ne.mpr c17
                      by_cases c19 : a0 = 15
                      · rw [if_pos c19] at H
                        have c19b0 : (a0 == 15) = true := beq_iff_eq.mpr c19
                        have c19b1 : (a0 != 15) = false := bne_eq_false_iff_eq.mpr c19
                        clear c19
                        replace H := Option.bind_eq_some_iff.mp H
                        obtain ⟨t106, A200, H⟩ := H
                        replace H : (some (t106, true)) = some (r1, r2) := H
                        have A20 := Aside0.mk A200
                        clear A200
                        simp only [Option.some.injEq, Prod.mk.injEq] at H
                        obtain ⟨rfl, rfl⟩ := H
                        go_wp2_with (first | ((with_reducible refine gate_callee (f := 22) rfl ?_); refine goesL_ (some 60) rfl rfl Try.func22 (by kernel_rfl) rfl #[.bool (decide (a1 > a2))] rfl (by (try simp only [List.map_toArray, List.map_cons, List.map_nil]); first | done | rfl | (simp only [List.length_drop, List.length_take]; rfl)) ?_; (with_reducible refine (eval_truth.calls (decide (a1 > a2)) t106 _ A20.out).mono ?_); rintro e w' ⟨rfl, ⟨nd, rfl⟩⟩; refine ⟨_, rfl, ?_⟩))
                        go_ret2
                        exact ⟨by first | rfl | (simp; done) | (simp [*]; done), by repeat (first | exact Drawn0.refl _ | apply Drawn0.step)⟩
                      · rw [if_neg c19] at H
                        have c19b0 : (a0 == 15) = false := beq_eq_false_iff_ne.mpr c19
                        have c19b1 : (a0 != 15) = true := bne_iff_ne.mpr c19
                        by_cases c21 : a0 = 16
                        · rw [if_pos c21] at H
                          have c21b0 : (a0 == 16) = true := beq_iff_eq.mpr c21
                          have c21b1 : (a0 != 16) = false := bne_eq_false_iff_eq.mpr c21
                          clear c21
                          replace H := Option.bind_eq_some_iff.mp H
                          obtain ⟨t107, A220, H⟩ := H
                          replace H : (some (t107, true)) = some (r1, r2) := H
                          have A22 := Aside0.mk A220
                          clear A220
                          simp only [Option.some.injEq, Prod.mk.injEq] at H
                          obtain ⟨rfl, rfl⟩ := H
                          go_wp2_with (first | ((with_reducible refine gate_callee (f := 22) rfl ?_); refine goesL_ (some 66) rfl rfl Try.func22 (by kernel_rfl) rfl #[.bool (decide (a1 ≥ a2))] rfl (by (try simp only [List.map_toArray, List.map_cons, List.map_nil]); first | done | rfl | (simp only [List.length_drop, List.length_take]; rfl)) ?_; (with_reducible refine (eval_truth.calls (decide (a1 ≥ a2)) t107 _ A22.out).mono ?_); rintro e w' ⟨rfl, ⟨nd, rfl⟩⟩; refine ⟨_, rfl, ?_⟩))
                          go_ret2
                          exact ⟨by first | rfl | (simp; done) | (simp [*]; done), by repeat (first | exact Drawn0.refl _ | apply Drawn0.step)⟩
                        · rw [if_neg c21] at H
                          have c21b0 : (a0 == 16) = false := beq_eq_false_iff_ne.mpr c21
                          have c21b1 : (a0 != 16) = true := bne_iff_ne.mpr c21
                          by_cases c23 : a0 = 17
                          · rw [if_pos c23] at H
                            have c23b0 : (a0 == 17) = true := beq_iff_eq.mpr c23
                            have c23b1 : (a0 != 17) = false := bne_eq_false_iff_eq.mpr c23
                            clear c23
                            by_cases c24 : a1 = 0
                            · rw [if_pos c24] at H
                              have c24b0 : (a1 == 0) = true := beq_iff_eq.mpr c24
                              have c24b1 : (a1 != 0) = false := bne_eq_false_iff_eq.mpr c24
                              clear c24
                              replace H := Option.bind_eq_some_iff.mp H
                              obtain ⟨t108, A250, H⟩ := H
                              replace H : (some (t108, true)) = some (r1, r2) := H
                              have A25 := Aside0.mk A250
                              clear A250
                              simp only [Option.some.injEq, Prod.mk.injEq] at H
                              obtain ⟨rfl, rfl⟩ := H
                              go_wp2_with (first | ((with_reducible refine gate_callee (f := 22) rfl ?_); refine goesL_ (some 75) rfl rfl Try.func22 (by kernel_rfl) rfl #[.bool false] rfl (by (try simp only [List.map_toArray, List.map_cons, List.map_nil]); first | done | rfl | (simp only [List.length_drop, List.length_take]; rfl)) ?_; (with_reducible refine (eval_truth.calls false t108 _ A25.out).mono ?_); rintro e w' ⟨rfl, ⟨nd, rfl⟩⟩; refine ⟨_, rfl, ?_⟩))
                              go_ret2
                              exact ⟨by first | rfl | (simp; done) | (simp [*]; done), by repeat (first | exact Drawn0.refl _ | apply Drawn0.step)⟩
                            · rw [if_neg c24] at H
                              have c24b0 : (a1 == 0) = false := beq_eq_false_iff_ne.mpr c24
                              have c24b1 : (a1 != 0) = true := bne_iff_ne.mpr c24
                              replace H := Option.bind_eq_some_iff.mp H
                              obtain ⟨t109, A260, H⟩ := H
                              replace H : (some (t109, true)) = some (r1, r2) := H
                              have A26 := Aside0.mk A260
                              clear A260
                              simp only [Option.some.injEq, Prod.mk.injEq] at H
                              obtain ⟨rfl, rfl⟩ := H
                              go_wp2_with (first | ((with_reducible refine gate_callee (f := 22) rfl ?_); refine goesL_ (some 75) rfl rfl Try.func22 (by kernel_rfl) rfl #[.bool (a2 != 0)] rfl (by (try simp only [List.map_toArray, List.map_cons, List.map_nil]); first | done | rfl | (simp only [List.length_drop, List.length_take]; rfl)) ?_; (with_reducible refine (eval_truth.calls (a2 != 0) t109 _ A26.out).mono ?_); rintro e w' ⟨rfl, ⟨nd, rfl⟩⟩; refine ⟨_, rfl, ?_⟩))
                              go_ret2
                              exact ⟨by first | rfl | (simp; done) | (simp [*]; done), by repeat (first | exact Drawn0.refl _ | apply Drawn0.step)⟩
                          · rw [if_neg c23] at H
                            have c23b0 : (a0 == 17) = false := beq_eq_false_iff_ne.mpr c23
                            have c23b1 : (a0 != 17) = true := bne_iff_ne.mpr c23
                            by_cases c27 : a0 = 18
                            · rw [if_pos c27] at H
                              have c27b0 : (a0 == 18) = true := beq_iff_eq.mpr c27
                              have c27b1 : (a0 != 18) = false := bne_eq_false_iff_eq.mpr c27
                              clear c27
                              by_cases c28 : a1 = 0
                              · rw [if_pos c28] at H
                                have c28b0 : (a1 == 0) = true := beq_iff_eq.mpr c28
                                have c28b1 : (a1 != 0) = false := bne_eq_false_iff_eq.mpr c28
                                clear c28
                                replace H := Option.bind_eq_some_iff.mp H
                                obtain ⟨t110, A290, H⟩ := H
                                replace H : (some (t110, true)) = some (r1, r2) := H
                                have A29 := Aside0.mk A290
                                clear A290
                                simp only [Option.some.injEq, Prod.mk.injEq] at H
                                obtain ⟨rfl, rfl⟩ := H
                                go_wp2_with (first | ((with_reducible refine gate_callee (f := 22) rfl ?_); refine goesL_ (some 84) rfl rfl Try.func22 (by kernel_rfl) rfl #[.bool (a2 != 0)] rfl (by (try simp only [List.map_toArray, List.map_cons, List.map_nil]); first | done | rfl | (simp only [List.length_drop, List.length_take]; rfl)) ?_; (with_reducible refine (eval_truth.calls (a2 != 0) t110 _ A29.out).mono ?_); rintro e w' ⟨rfl, ⟨nd, rfl⟩⟩; refine ⟨_, rfl, ?_⟩))
                                go_ret2
                                exact ⟨by first | rfl | (simp; done) | (simp [*]; done), by repeat (first | exact Drawn0.refl _ | apply Drawn0.step)⟩
                              · rw [if_neg c28] at H
                                have c28b0 : (a1 == 0) = false := beq_eq_false_iff_ne.mpr c28
                                have c28b1 : (a1 != 0) = true := bne_iff_ne.mpr c28
                                replace H := Option.bind_eq_some_iff.mp H
                                obtain ⟨t111, A300, H⟩ := H
                                replace H : (some (t111, true)) = some (r1, r2) := H
                                have A30 := Aside0.mk A300
                                clear A300
                                simp only [Option.some.injEq, Prod.mk.injEq] at H
                                obtain ⟨rfl, rfl⟩ := H
                                go_wp2_with (first | ((with_reducible refine gate_callee (f := 22) rfl ?_); refine goesL_ (some 84) rfl rfl Try.func22 (by kernel_rfl) rfl #[.bool true] rfl (by (try simp only [List.map_toArray, List.map_cons, List.map_nil]); first | done | rfl | (simp only [List.length_drop, List.length_take]; rfl)) ?_; (with_reducible refine (eval_truth.calls true t111 _ A30.out).mono ?_); rintro e w' ⟨rfl, ⟨nd, rfl⟩⟩; refine ⟨_, rfl, ?_⟩))
                                go_ret2
                                exact ⟨by first | rfl | (simp; done) | (simp [*]; done), by repeat (first | exact Drawn0.refl _ | apply Drawn0.step)⟩
                            · rw [if_neg c27] at H
                              have c27b0 : (a0 == 18) = false := beq_eq_false_iff_ne.mpr c27
                              have c27b1 : (a0 != 18) = true := bne_iff_ne.mpr c27
                              simp only [Option.some.injEq, Prod.mk.injEq] at H
                              obtain ⟨rfl, rfl⟩ := H
                              go_wp2
                              go_ret2
                              exact ⟨by first | rfl | (simp; done) | (simp [*]; done), by repeat (first | exact Drawn0.refl _ | apply Drawn0.step)⟩

/-! ### eval_Unary: function 12 -/
def eval_Unary.f (a0 : Int) (a1 : Int) : Option (Int × Bool) := if a0 = 4 then (some (wrap64 (-a1), true)) else (if a0 = 5 then ((eval_truth.f (a1 == 0)).bind fun t112 => (some (t112, true))) else (some (0, false)))
set_option maxHeartbeats 8000000 in
set_option maxRecDepth 100000 in
theorem eval_Unary.calls (a0 : Int) (a1 : Int) (r1 : Int) (r2 : Bool) (w : World) (h : eval_Unary.f a0 a1 = some (r1, r2)) :
    Calls Try.prog 12 #[.int .i64 a0, .int .i64 a1] w fun e w' => e = .returned (.tuple #[.int .i64 r1, .bool r2]) ∧ Drawn0 w w' := by
  have H : (if a0 = 4 then (some (wrap64 (-a1), true)) else (if a0 = 5 then ((eval_truth.f (a1 == 0)).bind fun t112 => (some (t112, true))) else (some (0, false)))) = some (r1, r2) := h
  clear h
  by_cases c3 : a0 = 4
  · rw [if_pos c3] at H
    have c3b0 : (a0 == 4) = true := beq_iff_eq.mpr c3
    have c3b1 : (a0 != 4) = false := bne_eq_false_iff_eq.mpr c3
    clear c3
    simp only [Option.some.injEq, Prod.mk.injEq] at H
    obtain ⟨rfl, rfl⟩ := H
    go_enter Try.func12, Try.ntmps12
    go_wp2
    go_ret2
    exact ⟨by first | rfl | (simp; done) | (simp [*]; done), by repeat (first | exact Drawn0.refl _ | apply Drawn0.step)⟩
  · rw [if_neg c3] at H
    have c3b0 : (a0 == 4) = false := beq_eq_false_iff_ne.mpr c3
    have c3b1 : (a0 != 4) = true := bne_iff_ne.mpr c3
    by_cases c4 : a0 = 5
    · rw [if_pos c4] at H
      have c4b0 : (a0 == 5) = true := beq_iff_eq.mpr c4
      have c4b1 : (a0 != 5) = false := bne_eq_false_iff_eq.mpr c4
      clear c4
      replace H := Option.bind_eq_some_iff.mp H
      obtain ⟨t112, A50, H⟩ := H
      replace H : (some (t112, true)) = some (r1, r2) := H
      have A5 := Aside0.mk A50
      clear A50
      simp only [Option.some.injEq, Prod.mk.injEq] at H
      obtain ⟨rfl, rfl⟩ := H
      go_enter Try.func12, Try.ntmps12
      go_wp2_with (first | ((with_reducible refine gate_callee (f := 22) rfl ?_); refine goesL_ (some 15) rfl rfl Try.func22 (by kernel_rfl) rfl #[.bool (a1 == 0)] rfl (by (try simp only [List.map_toArray, List.map_cons, List.map_nil]); first | done | rfl | (simp only [List.length_drop, List.length_take]; rfl)) ?_; (with_reducible refine (eval_truth.calls (a1 == 0) t112 _ A5.out).mono ?_); rintro e w' ⟨rfl, ⟨nd, rfl⟩⟩; refine ⟨_, rfl, ?_⟩))
      go_ret2
      exact ⟨by first | rfl | (simp; done) | (simp [*]; done), by repeat (first | exact Drawn0.refl _ | apply Drawn0.step)⟩
    · rw [if_neg c4] at H
      have c4b0 : (a0 == 5) = false := beq_eq_false_iff_ne.mpr c4
      have c4b1 : (a0 != 5) = true := bne_iff_ne.mpr c4
      simp only [Option.some.injEq, Prod.mk.injEq] at H
      obtain ⟨rfl, rfl⟩ := H
      go_enter Try.func12, Try.ntmps12
      go_wp2
      go_ret2
      exact ⟨by first | rfl | (simp; done) | (simp [*]; done), by repeat (first | exact Drawn0.refl _ | apply Drawn0.step)⟩

/-! ### interleavelaw05_awake: function 13 -/
def interleavelaw05_awake.f (k : Nat)  : Option (Bool) := (eval_Binary.f k 6 2 3).bind fun bt113 => (if bt113.1 = 5 then (some bt113.2) else (some false))
theorem interleavelaw05_awake.mono : ∀ k, LeO (interleavelaw05_awake.f k ) (interleavelaw05_awake.f (k + 1) ) := by
  intro  k
  unfold interleavelaw05_awake.f
  repeat' first
      | (with_reducible exact eval_Binary.mono _ _ _ _)
      | (with_reducible exact LeO.refl _)
      | (with_reducible exact LeO.none _)
      | (with_reducible refine LeO.ite ?_ ?_)
      | (with_reducible refine LeO.bind ?_ (fun _ => ?_))
      | exact eval_Binary.mono _ _ _ _
      | exact LeO.none _
      | refine LeO.ite ?_ ?_
      | refine LeO.bind ?_ (fun _ => ?_)
set_option maxHeartbeats 8000000 in
set_option maxRecDepth 100000 in
theorem interleavelaw05_awake.calls (k : Nat)  (r : Bool) (w : World) (h : interleavelaw05_awake.f k  = some r) :
    Calls Try.prog 13 #[] w fun e w' => e = .returned (.bool r) ∧ Drawn0 w w' := by
  have H : ((eval_Binary.f k 6 2 3).bind fun bt113 => (if bt113.1 = 5 then (some bt113.2) else (some false))) = some r := h
  clear h
  replace H := Option.bind_eq_some_iff.mp H
  obtain ⟨⟨t113, t114⟩, A10, H⟩ := H
  replace H : (if t113 = 5 then (some t114) else (some false)) = some r := H
  have A1 := Aside0.mk A10
  clear A10
  by_cases c2 : t113 = 5
  · rw [if_pos c2] at H
    have c2b0 : (t113 == 5) = true := beq_iff_eq.mpr c2
    have c2b1 : (t113 != 5) = false := bne_eq_false_iff_eq.mpr c2
    clear c2
    obtain rfl := Option.some.inj H
    go_enter Try.func13, Try.ntmps13
    go_wp2_with (first | ((with_reducible refine gate_callee (f := 10) rfl ?_); refine goesL_ (some 4) rfl rfl Try.func10 (by kernel_rfl) rfl #[.int .i64 6, .int .i64 2, .int .i64 3] rfl (by (try simp only [List.map_toArray, List.map_cons, List.map_nil]); first | done | rfl | (simp only [List.length_drop, List.length_take]; rfl)) ?_; (with_reducible refine (eval_Binary.calls k 6 2 3 t113 t114 _ A1.out).mono ?_); rintro e w' ⟨rfl, ⟨nd, rfl⟩⟩; refine ⟨_, rfl, ?_⟩))
    go_ret
    exact ⟨by first | rfl | (simp; done) | (simp [*]; done), by repeat (first | exact Drawn0.refl _ | apply Drawn0.step)⟩
  · rw [if_neg c2] at H
    have c2b0 : (t113 == 5) = false := beq_eq_false_iff_ne.mpr c2
    have c2b1 : (t113 != 5) = true := bne_iff_ne.mpr c2
    obtain rfl := Option.some.inj H
    go_enter Try.func13, Try.ntmps13
    go_wp2_with (first | ((with_reducible refine gate_callee (f := 10) rfl ?_); refine goesL_ (some 4) rfl rfl Try.func10 (by kernel_rfl) rfl #[.int .i64 6, .int .i64 2, .int .i64 3] rfl (by (try simp only [List.map_toArray, List.map_cons, List.map_nil]); first | done | rfl | (simp only [List.length_drop, List.length_take]; rfl)) ?_; (with_reducible refine (eval_Binary.calls k 6 2 3 t113 t114 _ A1.out).mono ?_); rintro e w' ⟨rfl, ⟨nd, rfl⟩⟩; refine ⟨_, rfl, ?_⟩))
    go_ret
    exact ⟨by first | rfl | (simp; done) | (simp [*]; done), by repeat (first | exact Drawn0.refl _ | apply Drawn0.step)⟩

/-! ### interleavelaw05_EvalRing: function 6 -/
def interleavelaw05_EvalRing.f (k : Nat) (a0 : Int) (a1 : Int) (a2 : Int) : Option (Bool) := (eval_Binary.f k 6 a0 a1).bind fun bt115 => ((eval_Binary.f k 6 a1 a0).bind fun bt117 => ((eval_Binary.f k 8 bt115.1 a2).bind fun bt119 => ((eval_Binary.f k 8 a2 a0).bind fun bt121 => ((eval_Binary.f k 8 a2 a1).bind fun bt123 => ((eval_Binary.f k 6 bt121.1 bt123.1).bind fun bt125 => ((eval_Binary.f k 7 a0 a1).bind fun bt127 => ((eval_Unary.f 4 a1).bind fun bt129 => ((eval_Binary.f k 6 a0 bt129.1).bind fun bt131 => (if bt115.2 = true then (if bt115.1 = bt117.1 then (if bt119.1 = bt125.1 then (if bt127.1 = bt131.1 then ((interleavelaw05_awake.f k).bind fun t133 => (some t133)) else (some false)) else (some false)) else (some false)) else (some false))))))))))
theorem interleavelaw05_EvalRing.mono : ∀ a0 a1 a2 k, LeO (interleavelaw05_EvalRing.f k a0 a1 a2) (interleavelaw05_EvalRing.f (k + 1) a0 a1 a2) := by
  intro a0 a1 a2 k
  unfold interleavelaw05_EvalRing.f
  repeat' first
      | (with_reducible exact eval_Binary.mono _ _ _ _)
      | (with_reducible exact interleavelaw05_awake.mono _)
      | (with_reducible exact LeO.refl _)
      | (with_reducible exact LeO.none _)
      | (with_reducible refine LeO.ite ?_ ?_)
      | (with_reducible refine LeO.bind ?_ (fun _ => ?_))
      | exact eval_Binary.mono _ _ _ _
      | exact interleavelaw05_awake.mono _
      | exact LeO.none _
      | refine LeO.ite ?_ ?_
      | refine LeO.bind ?_ (fun _ => ?_)
set_option maxHeartbeats 8000000 in
set_option maxRecDepth 100000 in
theorem interleavelaw05_EvalRing.calls (k : Nat) (a0 : Int) (a1 : Int) (a2 : Int) (r : Bool) (w : World) (h : interleavelaw05_EvalRing.f k a0 a1 a2 = some r) :
    Calls Try.prog 6 #[.int .i64 a0, .int .i64 a1, .int .i64 a2] w fun e w' => e = .returned (.bool r) ∧ Drawn0 w w' := by
  have H : ((eval_Binary.f k 6 a0 a1).bind fun bt115 => ((eval_Binary.f k 6 a1 a0).bind fun bt117 => ((eval_Binary.f k 8 bt115.1 a2).bind fun bt119 => ((eval_Binary.f k 8 a2 a0).bind fun bt121 => ((eval_Binary.f k 8 a2 a1).bind fun bt123 => ((eval_Binary.f k 6 bt121.1 bt123.1).bind fun bt125 => ((eval_Binary.f k 7 a0 a1).bind fun bt127 => ((eval_Unary.f 4 a1).bind fun bt129 => ((eval_Binary.f k 6 a0 bt129.1).bind fun bt131 => (if bt115.2 = true then (if bt115.1 = bt117.1 then (if bt119.1 = bt125.1 then (if bt127.1 = bt131.1 then ((interleavelaw05_awake.f k).bind fun t133 => (some t133)) else (some false)) else (some false)) else (some false)) else (some false))))))))))) = some r := h
  clear h
  replace H := Option.bind_eq_some_iff.mp H
  obtain ⟨⟨t115, t116⟩, A40, H⟩ := H
  replace H : ((eval_Binary.f k 6 a1 a0).bind fun bt117 => ((eval_Binary.f k 8 t115 a2).bind fun bt119 => ((eval_Binary.f k 8 a2 a0).bind fun bt121 => ((eval_Binary.f k 8 a2 a1).bind fun bt123 => ((eval_Binary.f k 6 bt121.1 bt123.1).bind fun bt125 => ((eval_Binary.f k 7 a0 a1).bind fun bt127 => ((eval_Unary.f 4 a1).bind fun bt129 => ((eval_Binary.f k 6 a0 bt129.1).bind fun bt131 => (if t116 = true then (if t115 = bt117.1 then (if bt119.1 = bt125.1 then (if bt127.1 = bt131.1 then ((interleavelaw05_awake.f k).bind fun t133 => (some t133)) else (some false)) else (some false)) else (some false)) else (some false)))))))))) = some r := H
  have A4 := Aside0.mk A40
  clear A40
  replace H := Option.bind_eq_some_iff.mp H
  obtain ⟨⟨t117, t118⟩, A50, H⟩ := H
  replace H : ((eval_Binary.f k 8 t115 a2).bind fun bt119 => ((eval_Binary.f k 8 a2 a0).bind fun bt121 => ((eval_Binary.f k 8 a2 a1).bind fun bt123 => ((eval_Binary.f k 6 bt121.1 bt123.1).bind fun bt125 => ((eval_Binary.f k 7 a0 a1).bind fun bt127 => ((eval_Unary.f 4 a1).bind fun bt129 => ((eval_Binary.f k 6 a0 bt129.1).bind fun bt131 => (if t116 = true then (if t115 = t117 then (if bt119.1 = bt125.1 then (if bt127.1 = bt131.1 then ((interleavelaw05_awake.f k).bind fun t133 => (some t133)) else (some false)) else (some false)) else (some false)) else (some false))))))))) = some r := H
  have A5 := Aside0.mk A50
  clear A50
  replace H := Option.bind_eq_some_iff.mp H
  obtain ⟨⟨t119, t120⟩, A60, H⟩ := H
  replace H : ((eval_Binary.f k 8 a2 a0).bind fun bt121 => ((eval_Binary.f k 8 a2 a1).bind fun bt123 => ((eval_Binary.f k 6 bt121.1 bt123.1).bind fun bt125 => ((eval_Binary.f k 7 a0 a1).bind fun bt127 => ((eval_Unary.f 4 a1).bind fun bt129 => ((eval_Binary.f k 6 a0 bt129.1).bind fun bt131 => (if t116 = true then (if t115 = t117 then (if t119 = bt125.1 then (if bt127.1 = bt131.1 then ((interleavelaw05_awake.f k).bind fun t133 => (some t133)) else (some false)) else (some false)) else (some false)) else (some false)))))))) = some r := H
  have A6 := Aside0.mk A60
  clear A60
  replace H := Option.bind_eq_some_iff.mp H
  obtain ⟨⟨t121, t122⟩, A70, H⟩ := H
  replace H : ((eval_Binary.f k 8 a2 a1).bind fun bt123 => ((eval_Binary.f k 6 t121 bt123.1).bind fun bt125 => ((eval_Binary.f k 7 a0 a1).bind fun bt127 => ((eval_Unary.f 4 a1).bind fun bt129 => ((eval_Binary.f k 6 a0 bt129.1).bind fun bt131 => (if t116 = true then (if t115 = t117 then (if t119 = bt125.1 then (if bt127.1 = bt131.1 then ((interleavelaw05_awake.f k).bind fun t133 => (some t133)) else (some false)) else (some false)) else (some false)) else (some false))))))) = some r := H
  have A7 := Aside0.mk A70
  clear A70
  replace H := Option.bind_eq_some_iff.mp H
  obtain ⟨⟨t123, t124⟩, A80, H⟩ := H
  replace H : ((eval_Binary.f k 6 t121 t123).bind fun bt125 => ((eval_Binary.f k 7 a0 a1).bind fun bt127 => ((eval_Unary.f 4 a1).bind fun bt129 => ((eval_Binary.f k 6 a0 bt129.1).bind fun bt131 => (if t116 = true then (if t115 = t117 then (if t119 = bt125.1 then (if bt127.1 = bt131.1 then ((interleavelaw05_awake.f k).bind fun t133 => (some t133)) else (some false)) else (some false)) else (some false)) else (some false)))))) = some r := H
  have A8 := Aside0.mk A80
  clear A80
  replace H := Option.bind_eq_some_iff.mp H
  obtain ⟨⟨t125, t126⟩, A90, H⟩ := H
  replace H : ((eval_Binary.f k 7 a0 a1).bind fun bt127 => ((eval_Unary.f 4 a1).bind fun bt129 => ((eval_Binary.f k 6 a0 bt129.1).bind fun bt131 => (if t116 = true then (if t115 = t117 then (if t119 = t125 then (if bt127.1 = bt131.1 then ((interleavelaw05_awake.f k).bind fun t133 => (some t133)) else (some false)) else (some false)) else (some false)) else (some false))))) = some r := H
  have A9 := Aside0.mk A90
  clear A90
  replace H := Option.bind_eq_some_iff.mp H
  obtain ⟨⟨t127, t128⟩, A100, H⟩ := H
  replace H : ((eval_Unary.f 4 a1).bind fun bt129 => ((eval_Binary.f k 6 a0 bt129.1).bind fun bt131 => (if t116 = true then (if t115 = t117 then (if t119 = t125 then (if t127 = bt131.1 then ((interleavelaw05_awake.f k).bind fun t133 => (some t133)) else (some false)) else (some false)) else (some false)) else (some false)))) = some r := H
  have A10 := Aside0.mk A100
  clear A100
  replace H := Option.bind_eq_some_iff.mp H
  obtain ⟨⟨t129, t130⟩, A110, H⟩ := H
  replace H : ((eval_Binary.f k 6 a0 t129).bind fun bt131 => (if t116 = true then (if t115 = t117 then (if t119 = t125 then (if t127 = bt131.1 then ((interleavelaw05_awake.f k).bind fun t133 => (some t133)) else (some false)) else (some false)) else (some false)) else (some false))) = some r := H
  have A11 := Aside0.mk A110
  clear A110
  replace H := Option.bind_eq_some_iff.mp H
  obtain ⟨⟨t131, t132⟩, A120, H⟩ := H
  replace H : (if t116 = true then (if t115 = t117 then (if t119 = t125 then (if t127 = t131 then ((interleavelaw05_awake.f k).bind fun t133 => (some t133)) else (some false)) else (some false)) else (some false)) else (some false)) = some r := H
  have A12 := Aside0.mk A120
  clear A120
  by_cases c13 : t116 = true
  · subst c13
    have H1 : (if t115 = t117 then (if t119 = t125 then (if t127 = t131 then ((interleavelaw05_awake.f k).bind fun t133 => (some t133)) else (some false)) else (some false)) else (some false)) = some r := by rw [if_pos rfl] at H; exact H
    clear H
    have H := H1
    clear H1
    by_cases c14 : t115 = t117
    · rw [if_pos c14] at H
      have c14b0 : (t115 == t117) = true := beq_iff_eq.mpr c14
      have c14b1 : (t115 != t117) = false := bne_eq_false_iff_eq.mpr c14
      clear c14
      by_cases c15 : t119 = t125
      · rw [if_pos c15] at H
        have c15b0 : (t119 == t125) = true := beq_iff_eq.mpr c15
        have c15b1 : (t119 != t125) = false := bne_eq_false_iff_eq.mpr c15
        clear c15
        by_cases c16 : t127 = t131
        · rw [if_pos c16] at H
          have c16b0 : (t127 == t131) = true := beq_iff_eq.mpr c16
          have c16b1 : (t127 != t131) = false := bne_eq_false_iff_eq.mpr c16
          clear c16
          replace H := Option.bind_eq_some_iff.mp H
          obtain ⟨t133, A170, H⟩ := H
          replace H : (some t133) = some r := H
          have A17 := Aside0.mk A170
          clear A170
          obtain rfl := Option.some.inj H
          go_enter Try.func6, Try.ntmps6
          go_wp2_with (first | ((with_reducible refine gate_callee (f := 10) rfl ?_); refine goesL_ (some 28) rfl rfl Try.func10 (by kernel_rfl) rfl #[.int .i64 6, .int .i64 a0, .int .i64 a1] rfl (by (try simp only [List.map_toArray, List.map_cons, List.map_nil]); first | done | rfl | (simp only [List.length_drop, List.length_take]; rfl)) ?_; (with_reducible refine (eval_Binary.calls k 6 a0 a1 t115 true _ A4.out).mono ?_); rintro e w' ⟨rfl, ⟨nd, rfl⟩⟩; refine ⟨_, rfl, ?_⟩) | ((with_reducible refine gate_callee (f := 10) rfl ?_); refine goesL_ (some 34) rfl rfl Try.func10 (by kernel_rfl) rfl #[.int .i64 6, .int .i64 a1, .int .i64 a0] rfl (by (try simp only [List.map_toArray, List.map_cons, List.map_nil]); first | done | rfl | (simp only [List.length_drop, List.length_take]; rfl)) ?_; (with_reducible refine (eval_Binary.calls k 6 a1 a0 t117 t118 _ A5.out).mono ?_); rintro e w' ⟨rfl, ⟨nd, rfl⟩⟩; refine ⟨_, rfl, ?_⟩) | ((with_reducible refine gate_callee (f := 10) rfl ?_); refine goesL_ (some 40) rfl rfl Try.func10 (by kernel_rfl) rfl #[.int .i64 8, .int .i64 t115, .int .i64 a2] rfl (by (try simp only [List.map_toArray, List.map_cons, List.map_nil]); first | done | rfl | (simp only [List.length_drop, List.length_take]; rfl)) ?_; (with_reducible refine (eval_Binary.calls k 8 t115 a2 t119 t120 _ A6.out).mono ?_); rintro e w' ⟨rfl, ⟨nd, rfl⟩⟩; refine ⟨_, rfl, ?_⟩) | ((with_reducible refine gate_callee (f := 10) rfl ?_); refine goesL_ (some 46) rfl rfl Try.func10 (by kernel_rfl) rfl #[.int .i64 8, .int .i64 a2, .int .i64 a0] rfl (by (try simp only [List.map_toArray, List.map_cons, List.map_nil]); first | done | rfl | (simp only [List.length_drop, List.length_take]; rfl)) ?_; (with_reducible refine (eval_Binary.calls k 8 a2 a0 t121 t122 _ A7.out).mono ?_); rintro e w' ⟨rfl, ⟨nd, rfl⟩⟩; refine ⟨_, rfl, ?_⟩) | ((with_reducible refine gate_callee (f := 10) rfl ?_); refine goesL_ (some 52) rfl rfl Try.func10 (by kernel_rfl) rfl #[.int .i64 8, .int .i64 a2, .int .i64 a1] rfl (by (try simp only [List.map_toArray, List.map_cons, List.map_nil]); first | done | rfl | (simp only [List.length_drop, List.length_take]; rfl)) ?_; (with_reducible refine (eval_Binary.calls k 8 a2 a1 t123 t124 _ A8.out).mono ?_); rintro e w' ⟨rfl, ⟨nd, rfl⟩⟩; refine ⟨_, rfl, ?_⟩) | ((with_reducible refine gate_callee (f := 10) rfl ?_); refine goesL_ (some 58) rfl rfl Try.func10 (by kernel_rfl) rfl #[.int .i64 6, .int .i64 t121, .int .i64 t123] rfl (by (try simp only [List.map_toArray, List.map_cons, List.map_nil]); first | done | rfl | (simp only [List.length_drop, List.length_take]; rfl)) ?_; (with_reducible refine (eval_Binary.calls k 6 t121 t123 t125 t126 _ A9.out).mono ?_); rintro e w' ⟨rfl, ⟨nd, rfl⟩⟩; refine ⟨_, rfl, ?_⟩) | ((with_reducible refine gate_callee (f := 10) rfl ?_); refine goesL_ (some 64) rfl rfl Try.func10 (by kernel_rfl) rfl #[.int .i64 7, .int .i64 a0, .int .i64 a1] rfl (by (try simp only [List.map_toArray, List.map_cons, List.map_nil]); first | done | rfl | (simp only [List.length_drop, List.length_take]; rfl)) ?_; (with_reducible refine (eval_Binary.calls k 7 a0 a1 t127 t128 _ A10.out).mono ?_); rintro e w' ⟨rfl, ⟨nd, rfl⟩⟩; refine ⟨_, rfl, ?_⟩) | ((with_reducible refine gate_callee (f := 12) rfl ?_); refine goesL_ (some 69) rfl rfl Try.func12 (by kernel_rfl) rfl #[.int .i64 4, .int .i64 a1] rfl (by (try simp only [List.map_toArray, List.map_cons, List.map_nil]); first | done | rfl | (simp only [List.length_drop, List.length_take]; rfl)) ?_; (with_reducible refine (eval_Unary.calls 4 a1 t129 t130 _ A11.out).mono ?_); rintro e w' ⟨rfl, ⟨nd, rfl⟩⟩; refine ⟨_, rfl, ?_⟩) | ((with_reducible refine gate_callee (f := 10) rfl ?_); refine goesL_ (some 75) rfl rfl Try.func10 (by kernel_rfl) rfl #[.int .i64 6, .int .i64 a0, .int .i64 t129] rfl (by (try simp only [List.map_toArray, List.map_cons, List.map_nil]); first | done | rfl | (simp only [List.length_drop, List.length_take]; rfl)) ?_; (with_reducible refine (eval_Binary.calls k 6 a0 t129 t131 t132 _ A12.out).mono ?_); rintro e w' ⟨rfl, ⟨nd, rfl⟩⟩; refine ⟨_, rfl, ?_⟩) | (go_at_call 13; (with_reducible refine (interleavelaw05_awake.calls k  t133 _ A17.out).mono ?_); rintro e w' ⟨rfl, ⟨nd, rfl⟩⟩))
          go_ret
          exact ⟨by first | rfl | (simp; done) | (simp [*]; done), by repeat (first | exact Drawn0.refl _ | apply Drawn0.step)⟩
        · rw [if_neg c16] at H
          have c16b0 : (t127 == t131) = false := beq_eq_false_iff_ne.mpr c16
          have c16b1 : (t127 != t131) = true := bne_iff_ne.mpr c16
          obtain rfl := Option.some.inj H
          go_enter Try.func6, Try.ntmps6
          go_wp2_with (first | ((with_reducible refine gate_callee (f := 10) rfl ?_); refine goesL_ (some 28) rfl rfl Try.func10 (by kernel_rfl) rfl #[.int .i64 6, .int .i64 a0, .int .i64 a1] rfl (by (try simp only [List.map_toArray, List.map_cons, List.map_nil]); first | done | rfl | (simp only [List.length_drop, List.length_take]; rfl)) ?_; (with_reducible refine (eval_Binary.calls k 6 a0 a1 t115 true _ A4.out).mono ?_); rintro e w' ⟨rfl, ⟨nd, rfl⟩⟩; refine ⟨_, rfl, ?_⟩) | ((with_reducible refine gate_callee (f := 10) rfl ?_); refine goesL_ (some 34) rfl rfl Try.func10 (by kernel_rfl) rfl #[.int .i64 6, .int .i64 a1, .int .i64 a0] rfl (by (try simp only [List.map_toArray, List.map_cons, List.map_nil]); first | done | rfl | (simp only [List.length_drop, List.length_take]; rfl)) ?_; (with_reducible refine (eval_Binary.calls k 6 a1 a0 t117 t118 _ A5.out).mono ?_); rintro e w' ⟨rfl, ⟨nd, rfl⟩⟩; refine ⟨_, rfl, ?_⟩) | ((with_reducible refine gate_callee (f := 10) rfl ?_); refine goesL_ (some 40) rfl rfl Try.func10 (by kernel_rfl) rfl #[.int .i64 8, .int .i64 t115, .int .i64 a2] rfl (by (try simp only [List.map_toArray, List.map_cons, List.map_nil]); first | done | rfl | (simp only [List.length_drop, List.length_take]; rfl)) ?_; (with_reducible refine (eval_Binary.calls k 8 t115 a2 t119 t120 _ A6.out).mono ?_); rintro e w' ⟨rfl, ⟨nd, rfl⟩⟩; refine ⟨_, rfl, ?_⟩) | ((with_reducible refine gate_callee (f := 10) rfl ?_); refine goesL_ (some 46) rfl rfl Try.func10 (by kernel_rfl) rfl #[.int .i64 8, .int .i64 a2, .int .i64 a0] rfl (by (try simp only [List.map_toArray, List.map_cons, List.map_nil]); first | done | rfl | (simp only [List.length_drop, List.length_take]; rfl)) ?_; (with_reducible refine (eval_Binary.calls k 8 a2 a0 t121 t122 _ A7.out).mono ?_); rintro e w' ⟨rfl, ⟨nd, rfl⟩⟩; refine ⟨_, rfl, ?_⟩) | ((with_reducible refine gate_callee (f := 10) rfl ?_); refine goesL_ (some 52) rfl rfl Try.func10 (by kernel_rfl) rfl #[.int .i64 8, .int .i64 a2, .int .i64 a1] rfl (by (try simp only [List.map_toArray, List.map_cons, List.map_nil]); first | done | rfl | (simp only [List.length_drop, List.length_take]; rfl)) ?_; (with_reducible refine (eval_Binary.calls k 8 a2 a1 t123 t124 _ A8.out).mono ?_); rintro e w' ⟨rfl, ⟨nd, rfl⟩⟩; refine ⟨_, rfl, ?_⟩) | ((with_reducible refine gate_callee (f := 10) rfl ?_); refine goesL_ (some 58) rfl rfl Try.func10 (by kernel_rfl) rfl #[.int .i64 6, .int .i64 t121, .int .i64 t123] rfl (by (try simp only [List.map_toArray, List.map_cons, List.map_nil]); first | done | rfl | (simp only [List.length_drop, List.length_take]; rfl)) ?_; (with_reducible refine (eval_Binary.calls k 6 t121 t123 t125 t126 _ A9.out).mono ?_); rintro e w' ⟨rfl, ⟨nd, rfl⟩⟩; refine ⟨_, rfl, ?_⟩) | ((with_reducible refine gate_callee (f := 10) rfl ?_); refine goesL_ (some 64) rfl rfl Try.func10 (by kernel_rfl) rfl #[.int .i64 7, .int .i64 a0, .int .i64 a1] rfl (by (try simp only [List.map_toArray, List.map_cons, List.map_nil]); first | done | rfl | (simp only [List.length_drop, List.length_take]; rfl)) ?_; (with_reducible refine (eval_Binary.calls k 7 a0 a1 t127 t128 _ A10.out).mono ?_); rintro e w' ⟨rfl, ⟨nd, rfl⟩⟩; refine ⟨_, rfl, ?_⟩) | ((with_reducible refine gate_callee (f := 12) rfl ?_); refine goesL_ (some 69) rfl rfl Try.func12 (by kernel_rfl) rfl #[.int .i64 4, .int .i64 a1] rfl (by (try simp only [List.map_toArray, List.map_cons, List.map_nil]); first | done | rfl | (simp only [List.length_drop, List.length_take]; rfl)) ?_; (with_reducible refine (eval_Unary.calls 4 a1 t129 t130 _ A11.out).mono ?_); rintro e w' ⟨rfl, ⟨nd, rfl⟩⟩; refine ⟨_, rfl, ?_⟩) | ((with_reducible refine gate_callee (f := 10) rfl ?_); refine goesL_ (some 75) rfl rfl Try.func10 (by kernel_rfl) rfl #[.int .i64 6, .int .i64 a0, .int .i64 t129] rfl (by (try simp only [List.map_toArray, List.map_cons, List.map_nil]); first | done | rfl | (simp only [List.length_drop, List.length_take]; rfl)) ?_; (with_reducible refine (eval_Binary.calls k 6 a0 t129 t131 t132 _ A12.out).mono ?_); rintro e w' ⟨rfl, ⟨nd, rfl⟩⟩; refine ⟨_, rfl, ?_⟩))
          go_ret
          exact ⟨by first | rfl | (simp; done) | (simp [*]; done), by repeat (first | exact Drawn0.refl _ | apply Drawn0.step)⟩
      · rw [if_neg c15] at H
        have c15b0 : (t119 == t125) = false := beq_eq_false_iff_ne.mpr c15
        have c15b1 : (t119 != t125) = true := bne_iff_ne.mpr c15
        obtain rfl := Option.some.inj H
        go_enter Try.func6, Try.ntmps6
        go_wp2_with (first | ((with_reducible refine gate_callee (f := 10) rfl ?_); refine goesL_ (some 28) rfl rfl Try.func10 (by kernel_rfl) rfl #[.int .i64 6, .int .i64 a0, .int .i64 a1] rfl (by (try simp only [List.map_toArray, List.map_cons, List.map_nil]); first | done | rfl | (simp only [List.length_drop, List.length_take]; rfl)) ?_; (with_reducible refine (eval_Binary.calls k 6 a0 a1 t115 true _ A4.out).mono ?_); rintro e w' ⟨rfl, ⟨nd, rfl⟩⟩; refine ⟨_, rfl, ?_⟩) | ((with_reducible refine gate_callee (f := 10) rfl ?_); refine goesL_ (some 34) rfl rfl Try.func10 (by kernel_rfl) rfl #[.int .i64 6, .int .i64 a1, .int .i64 a0] rfl (by (try simp only [List.map_toArray, List.map_cons, List.map_nil]); first | done | rfl | (simp only [List.length_drop, List.length_take]; rfl)) ?_; (with_reducible refine (eval_Binary.calls k 6 a1 a0 t117 t118 _ A5.out).mono ?_); rintro e w' ⟨rfl, ⟨nd, rfl⟩⟩; refine ⟨_, rfl, ?_⟩) | ((with_reducible refine gate_callee (f := 10) rfl ?_); refine goesL_ (some 40) rfl rfl Try.func10 (by kernel_rfl) rfl #[.int .i64 8, .int .i64 t115, .int .i64 a2] rfl (by (try simp only [List.map_toArray, List.map_cons, List.map_nil]); first | done | rfl | (simp only [List.length_drop, List.length_take]; rfl)) ?_; (with_reducible refine (eval_Binary.calls k 8 t115 a2 t119 t120 _ A6.out).mono ?_); rintro e w' ⟨rfl, ⟨nd, rfl⟩⟩; refine ⟨_, rfl, ?_⟩) | ((with_reducible refine gate_callee (f := 10) rfl ?_); refine goesL_ (some 46) rfl rfl Try.func10 (by kernel_rfl) rfl #[.int .i64 8, .int .i64 a2, .int .i64 a0] rfl (by (try simp only [List.map_toArray, List.map_cons, List.map_nil]); first | done | rfl | (simp only [List.length_drop, List.length_take]; rfl)) ?_; (with_reducible refine (eval_Binary.calls k 8 a2 a0 t121 t122 _ A7.out).mono ?_); rintro e w' ⟨rfl, ⟨nd, rfl⟩⟩; refine ⟨_, rfl, ?_⟩) | ((with_reducible refine gate_callee (f := 10) rfl ?_); refine goesL_ (some 52) rfl rfl Try.func10 (by kernel_rfl) rfl #[.int .i64 8, .int .i64 a2, .int .i64 a1] rfl (by (try simp only [List.map_toArray, List.map_cons, List.map_nil]); first | done | rfl | (simp only [List.length_drop, List.length_take]; rfl)) ?_; (with_reducible refine (eval_Binary.calls k 8 a2 a1 t123 t124 _ A8.out).mono ?_); rintro e w' ⟨rfl, ⟨nd, rfl⟩⟩; refine ⟨_, rfl, ?_⟩) | ((with_reducible refine gate_callee (f := 10) rfl ?_); refine goesL_ (some 58) rfl rfl Try.func10 (by kernel_rfl) rfl #[.int .i64 6, .int .i64 t121, .int .i64 t123] rfl (by (try simp only [List.map_toArray, List.map_cons, List.map_nil]); first | done | rfl | (simp only [List.length_drop, List.length_take]; rfl)) ?_; (with_reducible refine (eval_Binary.calls k 6 t121 t123 t125 t126 _ A9.out).mono ?_); rintro e w' ⟨rfl, ⟨nd, rfl⟩⟩; refine ⟨_, rfl, ?_⟩) | ((with_reducible refine gate_callee (f := 10) rfl ?_); refine goesL_ (some 64) rfl rfl Try.func10 (by kernel_rfl) rfl #[.int .i64 7, .int .i64 a0, .int .i64 a1] rfl (by (try simp only [List.map_toArray, List.map_cons, List.map_nil]); first | done | rfl | (simp only [List.length_drop, List.length_take]; rfl)) ?_; (with_reducible refine (eval_Binary.calls k 7 a0 a1 t127 t128 _ A10.out).mono ?_); rintro e w' ⟨rfl, ⟨nd, rfl⟩⟩; refine ⟨_, rfl, ?_⟩) | ((with_reducible refine gate_callee (f := 12) rfl ?_); refine goesL_ (some 69) rfl rfl Try.func12 (by kernel_rfl) rfl #[.int .i64 4, .int .i64 a1] rfl (by (try simp only [List.map_toArray, List.map_cons, List.map_nil]); first | done | rfl | (simp only [List.length_drop, List.length_take]; rfl)) ?_; (with_reducible refine (eval_Unary.calls 4 a1 t129 t130 _ A11.out).mono ?_); rintro e w' ⟨rfl, ⟨nd, rfl⟩⟩; refine ⟨_, rfl, ?_⟩) | ((with_reducible refine gate_callee (f := 10) rfl ?_); refine goesL_ (some 75) rfl rfl Try.func10 (by kernel_rfl) rfl #[.int .i64 6, .int .i64 a0, .int .i64 t129] rfl (by (try simp only [List.map_toArray, List.map_cons, List.map_nil]); first | done | rfl | (simp only [List.length_drop, List.length_take]; rfl)) ?_; (with_reducible refine (eval_Binary.calls k 6 a0 t129 t131 t132 _ A12.out).mono ?_); rintro e w' ⟨rfl, ⟨nd, rfl⟩⟩; refine ⟨_, rfl, ?_⟩))
        go_ret
        exact ⟨by first | rfl | (simp; done) | (simp [*]; done), by repeat (first | exact Drawn0.refl _ | apply Drawn0.step)⟩
    · rw [if_neg c14] at H
      have c14b0 : (t115 == t117) = false := beq_eq_false_iff_ne.mpr c14
      have c14b1 : (t115 != t117) = true := bne_iff_ne.mpr c14
      obtain rfl := Option.some.inj H
      go_enter Try.func6, Try.ntmps6
      go_wp2_with (first | ((with_reducible refine gate_callee (f := 10) rfl ?_); refine goesL_ (some 28) rfl rfl Try.func10 (by kernel_rfl) rfl #[.int .i64 6, .int .i64 a0, .int .i64 a1] rfl (by (try simp only [List.map_toArray, List.map_cons, List.map_nil]); first | done | rfl | (simp only [List.length_drop, List.length_take]; rfl)) ?_; (with_reducible refine (eval_Binary.calls k 6 a0 a1 t115 true _ A4.out).mono ?_); rintro e w' ⟨rfl, ⟨nd, rfl⟩⟩; refine ⟨_, rfl, ?_⟩) | ((with_reducible refine gate_callee (f := 10) rfl ?_); refine goesL_ (some 34) rfl rfl Try.func10 (by kernel_rfl) rfl #[.int .i64 6, .int .i64 a1, .int .i64 a0] rfl (by (try simp only [List.map_toArray, List.map_cons, List.map_nil]); first | done | rfl | (simp only [List.length_drop, List.length_take]; rfl)) ?_; (with_reducible refine (eval_Binary.calls k 6 a1 a0 t117 t118 _ A5.out).mono ?_); rintro e w' ⟨rfl, ⟨nd, rfl⟩⟩; refine ⟨_, rfl, ?_⟩) | ((with_reducible refine gate_callee (f := 10) rfl ?_); refine goesL_ (some 40) rfl rfl Try.func10 (by kernel_rfl) rfl #[.int .i64 8, .int .i64 t115, .int .i64 a2] rfl (by (try simp only [List.map_toArray, List.map_cons, List.map_nil]); first | done | rfl | (simp only [List.length_drop, List.length_take]; rfl)) ?_; (with_reducible refine (eval_Binary.calls k 8 t115 a2 t119 t120 _ A6.out).mono ?_); rintro e w' ⟨rfl, ⟨nd, rfl⟩⟩; refine ⟨_, rfl, ?_⟩) | ((with_reducible refine gate_callee (f := 10) rfl ?_); refine goesL_ (some 46) rfl rfl Try.func10 (by kernel_rfl) rfl #[.int .i64 8, .int .i64 a2, .int .i64 a0] rfl (by (try simp only [List.map_toArray, List.map_cons, List.map_nil]); first | done | rfl | (simp only [List.length_drop, List.length_take]; rfl)) ?_; (with_reducible refine (eval_Binary.calls k 8 a2 a0 t121 t122 _ A7.out).mono ?_); rintro e w' ⟨rfl, ⟨nd, rfl⟩⟩; refine ⟨_, rfl, ?_⟩) | ((with_reducible refine gate_callee (f := 10) rfl ?_); refine goesL_ (some 52) rfl rfl Try.func10 (by kernel_rfl) rfl #[.int .i64 8, .int .i64 a2, .int .i64 a1] rfl (by (try simp only [List.map_toArray, List.map_cons, List.map_nil]); first | done | rfl | (simp only [List.length_drop, List.length_take]; rfl)) ?_; (with_reducible refine (eval_Binary.calls k 8 a2 a1 t123 t124 _ A8.out).mono ?_); rintro e w' ⟨rfl, ⟨nd, rfl⟩⟩; refine ⟨_, rfl, ?_⟩) | ((with_reducible refine gate_callee (f := 10) rfl ?_); refine goesL_ (some 58) rfl rfl Try.func10 (by kernel_rfl) rfl #[.int .i64 6, .int .i64 t121, .int .i64 t123] rfl (by (try simp only [List.map_toArray, List.map_cons, List.map_nil]); first | done | rfl | (simp only [List.length_drop, List.length_take]; rfl)) ?_; (with_reducible refine (eval_Binary.calls k 6 t121 t123 t125 t126 _ A9.out).mono ?_); rintro e w' ⟨rfl, ⟨nd, rfl⟩⟩; refine ⟨_, rfl, ?_⟩) | ((with_reducible refine gate_callee (f := 10) rfl ?_); refine goesL_ (some 64) rfl rfl Try.func10 (by kernel_rfl) rfl #[.int .i64 7, .int .i64 a0, .int .i64 a1] rfl (by (try simp only [List.map_toArray, List.map_cons, List.map_nil]); first | done | rfl | (simp only [List.length_drop, List.length_take]; rfl)) ?_; (with_reducible refine (eval_Binary.calls k 7 a0 a1 t127 t128 _ A10.out).mono ?_); rintro e w' ⟨rfl, ⟨nd, rfl⟩⟩; refine ⟨_, rfl, ?_⟩) | ((with_reducible refine gate_callee (f := 12) rfl ?_); refine goesL_ (some 69) rfl rfl Try.func12 (by kernel_rfl) rfl #[.int .i64 4, .int .i64 a1] rfl (by (try simp only [List.map_toArray, List.map_cons, List.map_nil]); first | done | rfl | (simp only [List.length_drop, List.length_take]; rfl)) ?_; (with_reducible refine (eval_Unary.calls 4 a1 t129 t130 _ A11.out).mono ?_); rintro e w' ⟨rfl, ⟨nd, rfl⟩⟩; refine ⟨_, rfl, ?_⟩) | ((with_reducible refine gate_callee (f := 10) rfl ?_); refine goesL_ (some 75) rfl rfl Try.func10 (by kernel_rfl) rfl #[.int .i64 6, .int .i64 a0, .int .i64 t129] rfl (by (try simp only [List.map_toArray, List.map_cons, List.map_nil]); first | done | rfl | (simp only [List.length_drop, List.length_take]; rfl)) ?_; (with_reducible refine (eval_Binary.calls k 6 a0 t129 t131 t132 _ A12.out).mono ?_); rintro e w' ⟨rfl, ⟨nd, rfl⟩⟩; refine ⟨_, rfl, ?_⟩))
      go_ret
      exact ⟨by first | rfl | (simp; done) | (simp [*]; done), by repeat (first | exact Drawn0.refl _ | apply Drawn0.step)⟩
  · replace c13 := Bool.eq_false_iff.mpr c13
    subst c13
    have H1 : (some false) = some r := by rw [if_neg (show ¬ (false = true) by decide)] at H; exact H
    clear H
    have H := H1
    clear H1
    obtain rfl := Option.some.inj H
    go_enter Try.func6, Try.ntmps6
    go_wp2_with (first | ((with_reducible refine gate_callee (f := 10) rfl ?_); refine goesL_ (some 28) rfl rfl Try.func10 (by kernel_rfl) rfl #[.int .i64 6, .int .i64 a0, .int .i64 a1] rfl (by (try simp only [List.map_toArray, List.map_cons, List.map_nil]); first | done | rfl | (simp only [List.length_drop, List.length_take]; rfl)) ?_; (with_reducible refine (eval_Binary.calls k 6 a0 a1 t115 false _ A4.out).mono ?_); rintro e w' ⟨rfl, ⟨nd, rfl⟩⟩; refine ⟨_, rfl, ?_⟩) | ((with_reducible refine gate_callee (f := 10) rfl ?_); refine goesL_ (some 34) rfl rfl Try.func10 (by kernel_rfl) rfl #[.int .i64 6, .int .i64 a1, .int .i64 a0] rfl (by (try simp only [List.map_toArray, List.map_cons, List.map_nil]); first | done | rfl | (simp only [List.length_drop, List.length_take]; rfl)) ?_; (with_reducible refine (eval_Binary.calls k 6 a1 a0 t117 t118 _ A5.out).mono ?_); rintro e w' ⟨rfl, ⟨nd, rfl⟩⟩; refine ⟨_, rfl, ?_⟩) | ((with_reducible refine gate_callee (f := 10) rfl ?_); refine goesL_ (some 40) rfl rfl Try.func10 (by kernel_rfl) rfl #[.int .i64 8, .int .i64 t115, .int .i64 a2] rfl (by (try simp only [List.map_toArray, List.map_cons, List.map_nil]); first | done | rfl | (simp only [List.length_drop, List.length_take]; rfl)) ?_; (with_reducible refine (eval_Binary.calls k 8 t115 a2 t119 t120 _ A6.out).mono ?_); rintro e w' ⟨rfl, ⟨nd, rfl⟩⟩; refine ⟨_, rfl, ?_⟩) | ((with_reducible refine gate_callee (f := 10) rfl ?_); refine goesL_ (some 46) rfl rfl Try.func10 (by kernel_rfl) rfl #[.int .i64 8, .int .i64 a2, .int .i64 a0] rfl (by (try simp only [List.map_toArray, List.map_cons, List.map_nil]); first | done | rfl | (simp only [List.length_drop, List.length_take]; rfl)) ?_; (with_reducible refine (eval_Binary.calls k 8 a2 a0 t121 t122 _ A7.out).mono ?_); rintro e w' ⟨rfl, ⟨nd, rfl⟩⟩; refine ⟨_, rfl, ?_⟩) | ((with_reducible refine gate_callee (f := 10) rfl ?_); refine goesL_ (some 52) rfl rfl Try.func10 (by kernel_rfl) rfl #[.int .i64 8, .int .i64 a2, .int .i64 a1] rfl (by (try simp only [List.map_toArray, List.map_cons, List.map_nil]); first | done | rfl | (simp only [List.length_drop, List.length_take]; rfl)) ?_; (with_reducible refine (eval_Binary.calls k 8 a2 a1 t123 t124 _ A8.out).mono ?_); rintro e w' ⟨rfl, ⟨nd, rfl⟩⟩; refine ⟨_, rfl, ?_⟩) | ((with_reducible refine gate_callee (f := 10) rfl ?_); refine goesL_ (some 58) rfl rfl Try.func10 (by kernel_rfl) rfl #[.int .i64 6, .int .i64 t121, .int .i64 t123] rfl (by (try simp only [List.map_toArray, List.map_cons, List.map_nil]); first | done | rfl | (simp only [List.length_drop, List.length_take]; rfl)) ?_; (with_reducible refine (eval_Binary.calls k 6 t121 t123 t125 t126 _ A9.out).mono ?_); rintro e w' ⟨rfl, ⟨nd, rfl⟩⟩; refine ⟨_, rfl, ?_⟩) | ((with_reducible refine gate_callee (f := 10) rfl ?_); refine goesL_ (some 64) rfl rfl Try.func10 (by kernel_rfl) rfl #[.int .i64 7, .int .i64 a0, .int .i64 a1] rfl (by (try simp only [List.map_toArray, List.map_cons, List.map_nil]); first | done | rfl | (simp only [List.length_drop, List.length_take]; rfl)) ?_; (with_reducible refine (eval_Binary.calls k 7 a0 a1 t127 t128 _ A10.out).mono ?_); rintro e w' ⟨rfl, ⟨nd, rfl⟩⟩; refine ⟨_, rfl, ?_⟩) | ((with_reducible refine gate_callee (f := 12) rfl ?_); refine goesL_ (some 69) rfl rfl Try.func12 (by kernel_rfl) rfl #[.int .i64 4, .int .i64 a1] rfl (by (try simp only [List.map_toArray, List.map_cons, List.map_nil]); first | done | rfl | (simp only [List.length_drop, List.length_take]; rfl)) ?_; (with_reducible refine (eval_Unary.calls 4 a1 t129 t130 _ A11.out).mono ?_); rintro e w' ⟨rfl, ⟨nd, rfl⟩⟩; refine ⟨_, rfl, ?_⟩) | ((with_reducible refine gate_callee (f := 10) rfl ?_); refine goesL_ (some 75) rfl rfl Try.func10 (by kernel_rfl) rfl #[.int .i64 6, .int .i64 a0, .int .i64 t129] rfl (by (try simp only [List.map_toArray, List.map_cons, List.map_nil]); first | done | rfl | (simp only [List.length_drop, List.length_take]; rfl)) ?_; (with_reducible refine (eval_Binary.calls k 6 a0 t129 t131 t132 _ A12.out).mono ?_); rintro e w' ⟨rfl, ⟨nd, rfl⟩⟩; refine ⟨_, rfl, ?_⟩))
    go_ret
    exact ⟨by first | rfl | (simp; done) | (simp [*]; done), by repeat (first | exact Drawn0.refl _ | apply Drawn0.step)⟩

/-- THE ONE PURE STATEMENT of interleavelaw05_EvalRing: yours. -/
def interleavelaw05_EvalRing.Pure : Prop := ∀ (a0 : Int) (a1 : Int) (a2 : Int), (Lit.int .i64 a0).wf = true → (Lit.int .i64 a1).wf = true → (Lit.int .i64 a2).wf = true → ∃ k, interleavelaw05_EvalRing.f k a0 a1 a2 = some true
theorem interleavelaw05_EvalRing.walk (P : interleavelaw05_EvalRing.Pure) (a0 : Int) (a1 : Int) (a2 : Int) (w : World) (w0 : (Lit.int .i64 a0).wf = true) (w1 : (Lit.int .i64 a1).wf = true) (w2 : (Lit.int .i64 a2).wf = true) :
    Calls Try.prog 6 #[.int .i64 a0, .int .i64 a1, .int .i64 a2] w fun e w' => e = .returned (.bool true) ∧ Below w.heap.size w w' := by
  obtain ⟨k, h⟩ := P a0 a1 a2 w0 w1 w2
  refine (interleavelaw05_EvalRing.calls k a0 a1 a2 true w h).mono ?_
  rintro e w' ⟨rfl, hd⟩
  exact ⟨rfl, hd.below⟩

end Go.Proofs.Ytgoefoilghjfhaa.PEvalRing
