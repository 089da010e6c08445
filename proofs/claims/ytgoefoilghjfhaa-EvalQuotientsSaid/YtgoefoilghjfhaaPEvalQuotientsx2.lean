-- PRINTED BY print.sh 35421559b90ae4d0a3588c463048766b98c2df88dd9212a6774a882060cdf62d: not written by this session
import Derived.Test.YtgoefoilghjfhaaPEvalQuotientsx0
import Derived.Test.YtgoefoilghjfhaaPEvalQuotientsx1
namespace Go.Proofs.Ytgoefoilghjfhaa.PEvalQuotients
open Go.RowKit Go.Proofs.YtgoefoilghjfhaaW.PrintWords Go.Proofs.YtgoefoilghjfhaaW.PrintLast Go.Proofs.YtgoefoilghjfhaaW.PrintMore
attribute [local go_sem] max2_int min2_int max_two min_two max_three min_three max_four min_four   -- for this text's walks alone
set_option linter.unusedVariables false
set_option linter.unusedSimpArgs false

/-! ### interleavelaw05_EvalQuotients: function 3 -/
def interleavelaw05_EvalQuotients.j0 : Nat → Int → Int → Int → Int → Bool → Option (Bool)
  | 0, _, _, _, _, _ => none
  | k + 1, x0, x1, x5, x7, x27 => if x27 = true then (some false) else (if x1 = 0 then (if x5 = 0 then (some (x7 == 0)) else (some false)) else (if x1 = (-9223372036854775808) then (if x1 < 0 then (if x1 > (-9223372036854775808) then (if x7 > x1 then (if (wrap64 ((wrap64 (x5 * x1)) + x7)) = x0 then (if x7 < (wrap64 (-x1)) then (if x7 = 0 then (some true) else (some ((decide (x7 < 0)) == (decide (x0 < 0))))) else (some false)) else (some false)) else (if (wrap64 ((wrap64 (x5 * x1)) + x7)) = x0 then (some false) else (some false))) else (if (wrap64 ((wrap64 (x5 * x1)) + x7)) = x0 then (if x7 = 0 then (some true) else (some ((decide (x7 < 0)) == (decide (x0 < 0))))) else (some false))) else (if (wrap64 ((wrap64 (x5 * x1)) + x7)) = x0 then (if x7 = 0 then (some true) else (some ((decide (x7 < 0)) == (decide (x0 < 0))))) else (some false))) else (if x7 > (wrap64 (-x1)) then (if x1 < 0 then (if x1 > (-9223372036854775808) then (if x7 > x1 then (if (wrap64 ((wrap64 (x5 * x1)) + x7)) = x0 then (if x7 < (wrap64 (-x1)) then (if x7 = 0 then (some true) else (some ((decide (x7 < 0)) == (decide (x0 < 0))))) else (some false)) else (some false)) else (if (wrap64 ((wrap64 (x5 * x1)) + x7)) = x0 then (some false) else (some false))) else (if (wrap64 ((wrap64 (x5 * x1)) + x7)) = x0 then (if x7 < x1 then (if x7 = 0 then (some true) else (some ((decide (x7 < 0)) == (decide (x0 < 0))))) else (some false)) else (some false))) else (if (wrap64 ((wrap64 (x5 * x1)) + x7)) = x0 then (if x7 < x1 then (if x7 = 0 then (some true) else (some ((decide (x7 < 0)) == (decide (x0 < 0))))) else (some false)) else (some false))) else (if x1 < 0 then (if x1 > (-9223372036854775808) then (if x7 > x1 then (if (wrap64 ((wrap64 (x5 * x1)) + x7)) = x0 then (if x7 < (wrap64 (-x1)) then (if x7 = 0 then (some true) else (some ((decide (x7 < 0)) == (decide (x0 < 0))))) else (some false)) else (some false)) else (if (wrap64 ((wrap64 (x5 * x1)) + x7)) = x0 then (some false) else (some false))) else (if (wrap64 ((wrap64 (x5 * x1)) + x7)) = x0 then (some false) else (some false))) else (if (wrap64 ((wrap64 (x5 * x1)) + x7)) = x0 then (some false) else (some false))))))
def interleavelaw05_EvalQuotients.f (k : Nat) (a0 : Int) (a1 : Int) : Option (Bool) := (eval_Binary.f k 9 a0 a1).bind fun bt112 => ((eval_Binary.f k 10 a0 a1).bind fun bt114 => (if bt112.2 = true then (interleavelaw05_EvalQuotients.j0 k a0 a1 bt112.1 bt114.1 (!bt114.2)) else (interleavelaw05_EvalQuotients.j0 k a0 a1 bt112.1 bt114.1 true)))
theorem interleavelaw05_EvalQuotients.mono_l : ∀ k, (∀ y0 y1 y2 y3 y4, LeO (interleavelaw05_EvalQuotients.j0 k y0 y1 y2 y3 y4) (interleavelaw05_EvalQuotients.j0 (k + 1) y0 y1 y2 y3 y4))
  | 0 => fun _ _ _ _ _ r h => by simp [interleavelaw05_EvalQuotients.j0] at h
  | k + 1 => by
    have ih0 := interleavelaw05_EvalQuotients.mono_l k
    · intro y0 y1 y2 y3 y4
      unfold interleavelaw05_EvalQuotients.j0
      repeat' first
      | (with_reducible exact ih0 _ _ _ _ _)
      | (with_reducible exact eval_Binary.mono _ _ _ _)
      | (with_reducible exact LeO.refl _)
      | (with_reducible exact LeO.none _)
      | (with_reducible refine LeO.ite ?_ ?_)
      | (with_reducible refine LeO.bind ?_ (fun _ => ?_))
      | exact ih0 _ _ _ _ _
      | exact eval_Binary.mono _ _ _ _
      | exact LeO.none _
      | refine LeO.ite ?_ ?_
      | refine LeO.bind ?_ (fun _ => ?_)
theorem interleavelaw05_EvalQuotients.mono : ∀ a0 a1 k, LeO (interleavelaw05_EvalQuotients.f k a0 a1) (interleavelaw05_EvalQuotients.f (k + 1) a0 a1) := by
  intro a0 a1 k
  have ih0 := interleavelaw05_EvalQuotients.mono_l k
  unfold interleavelaw05_EvalQuotients.f
  repeat' first
      | (with_reducible exact ih0 _ _ _ _ _)
      | (with_reducible exact eval_Binary.mono _ _ _ _)
      | (with_reducible exact LeO.refl _)
      | (with_reducible exact LeO.none _)
      | (with_reducible refine LeO.ite ?_ ?_)
      | (with_reducible refine LeO.bind ?_ (fun _ => ?_))
      | exact ih0 _ _ _ _ _
      | exact eval_Binary.mono _ _ _ _
      | exact LeO.none _
      | refine LeO.ite ?_ ?_
      | refine LeO.bind ?_ (fun _ => ?_)
set_option maxHeartbeats 8000000 in
set_option maxRecDepth 100000 in
theorem interleavelaw05_EvalQuotients.calls (k : Nat) (a0 : Int) (a1 : Int) (r : Bool) (w : World) (h : interleavelaw05_EvalQuotients.f k a0 a1 = some r) :
    Calls Try.prog 3 #[.int .i64 a0, .int .i64 a1] w fun e w' => e = .returned (.bool r) ∧ Drawn0 w w' := by
  have H : ((eval_Binary.f k 9 a0 a1).bind fun bt112 => ((eval_Binary.f k 10 a0 a1).bind fun bt114 => (if bt112.2 = true then (interleavelaw05_EvalQuotients.j0 k a0 a1 bt112.1 bt114.1 (!bt114.2)) else (interleavelaw05_EvalQuotients.j0 k a0 a1 bt112.1 bt114.1 true)))) = some r := h
  clear h
  replace H := Option.bind_eq_some_iff.mp H
  obtain ⟨⟨t112, t113⟩, A30, H⟩ := H
  replace H : ((eval_Binary.f k 10 a0 a1).bind fun bt114 => (if t113 = true then (interleavelaw05_EvalQuotients.j0 k a0 a1 t112 bt114.1 (!bt114.2)) else (interleavelaw05_EvalQuotients.j0 k a0 a1 t112 bt114.1 true))) = some r := H
  have A3 := Aside0.mk A30
  clear A30
  replace H := Option.bind_eq_some_iff.mp H
  obtain ⟨⟨t114, t115⟩, A40, H⟩ := H
  replace H : (if t113 = true then (interleavelaw05_EvalQuotients.j0 k a0 a1 t112 t114 (!t115)) else (interleavelaw05_EvalQuotients.j0 k a0 a1 t112 t114 true)) = some r := H
  have A4 := Aside0.mk A40
  clear A40
  have HC5 := Aside0.mk H
  clear H
  go_enter Try.func3, Try.ntmps3
  go_upto_region 3 with (first | ((with_reducible refine gate_callee (f := 10) rfl ?_); refine goesL_ (some 13) rfl rfl Try.func10 (by kernel_rfl) rfl #[.int .i64 9, .int .i64 a0, .int .i64 a1] rfl (by (try simp only [List.map_toArray, List.map_cons, List.map_nil]); first | done | rfl | (simp only [List.length_drop, List.length_take]; rfl)) ?_; (with_reducible refine (eval_Binary.calls k 9 a0 a1 t112 t113 _ A3.out).mono ?_); rintro e w' ⟨rfl, ⟨nd, rfl⟩⟩; refine ⟨_, rfl, ?_⟩) | ((with_reducible refine gate_callee (f := 10) rfl ?_); refine goesL_ (some 19) rfl rfl Try.func10 (by kernel_rfl) rfl #[.int .i64 10, .int .i64 a0, .int .i64 a1] rfl (by (try simp only [List.map_toArray, List.map_cons, List.map_nil]); first | done | rfl | (simp only [List.length_drop, List.length_take]; rfl)) ?_; (with_reducible refine (eval_Binary.calls k 10 a0 a1 t114 t115 _ A4.out).mono ?_); rintro e w' ⟨rfl, ⟨nd, rfl⟩⟩; refine ⟨_, rfl, ?_⟩))
  (try simp only [Act.put, List.setIfInBounds_toArray, List.set_cons_zero, List.set_cons_succ])
  go_cut [27] (fun v27 wc => ∃ (kq : Nat) (x27_4 : Bool), v27 = .bool x27_4 ∧ Aside0 (interleavelaw05_EvalQuotients.j0 kq a0 a1 t112 t114 x27_4 = some r) ∧ Aside0 (kq ≤ k) ∧ Drawn0 w wc)
  case first =>
    have H := HC5.out
    clear HC5
    by_cases c6 : t113 = true
    · subst c6
      have H1 : (interleavelaw05_EvalQuotients.j0 k a0 a1 t112 t114 (!t115)) = some r := by rw [if_pos rfl] at H; exact H
      clear H
      have H := H1
      clear H1
      have H' := Aside0.mk H
      clear H
      go_wp2
      go_meet
      case rel => exact ⟨_, (!t115), (by first | rfl | (simp; done) | (simp [*]; done)), H', ⟨by first | omega | exact Nat.le_refl _⟩, by repeat (first | exact Drawn0.refl _ | apply Drawn0.step)⟩
    · replace c6 := Bool.eq_false_iff.mpr c6
      subst c6
      have H1 : (interleavelaw05_EvalQuotients.j0 k a0 a1 t112 t114 true) = some r := by rw [if_neg (show ¬ (false = true) by decide)] at H; exact H
      clear H
      have H := H1
      clear H1
      have H' := Aside0.mk H
      clear H
      go_wp2
      go_meet
      case rel => exact ⟨_, (true), (by first | rfl | (simp; done) | (simp [*]; done)), H', ⟨by first | omega | exact Nat.le_refl _⟩, by repeat (first | exact Drawn0.refl _ | apply Drawn0.step)⟩
  case rest =>
    clear HC5
    try clear c1
    try clear p2
    try clear c3
    try clear c6
    obtain ⟨kq, x27_4, rfl, HA, HJ4, ⟨mc4, rfl⟩⟩ := hcut
    cases kq with
    | zero => exact absurd HA.out (by simp [interleavelaw05_EvalQuotients.j0])
    | succ kj4 =>
      have H := HA.out
      clear HA
      simp only [interleavelaw05_EvalQuotients.j0] at H
      by_cases c7 : x27_4 = true
      · subst c7
        have H1 : (some false) = some r := by rw [if_pos rfl] at H; exact H
        clear H
        have H := H1
        clear H1
        obtain rfl := Option.some.inj H
        go_wp2
        go_ret
        exact ⟨by first | rfl | (simp; done) | (simp [*]; done), by repeat (first | exact Drawn0.refl _ | apply Drawn0.step)⟩
      · replace c7 := Bool.eq_false_iff.mpr c7
        subst c7
        have H1 : (if a1 = 0 then (if t112 = 0 then (some (t114 == 0)) else (some false)) else (if a1 = (-9223372036854775808) then (if a1 < 0 then (if a1 > (-9223372036854775808) then (if t114 > a1 then (if (wrap64 ((wrap64 (t112 * a1)) + t114)) = a0 then (if t114 < (wrap64 (-a1)) then (if t114 = 0 then (some true) else (some ((decide (t114 < 0)) == (decide (a0 < 0))))) else (some false)) else (some false)) else (if (wrap64 ((wrap64 (t112 * a1)) + t114)) = a0 then (some false) else (some false))) else (if (wrap64 ((wrap64 (t112 * a1)) + t114)) = a0 then (if t114 = 0 then (some true) else (some ((decide (t114 < 0)) == (decide (a0 < 0))))) else (some false))) else (if (wrap64 ((wrap64 (t112 * a1)) + t114)) = a0 then (if t114 = 0 then (some true) else (some ((decide (t114 < 0)) == (decide (a0 < 0))))) else (some false))) else (if t114 > (wrap64 (-a1)) then (if a1 < 0 then (if a1 > (-9223372036854775808) then (if t114 > a1 then (if (wrap64 ((wrap64 (t112 * a1)) + t114)) = a0 then (if t114 < (wrap64 (-a1)) then (if t114 = 0 then (some true) else (some ((decide (t114 < 0)) == (decide (a0 < 0))))) else (some false)) else (some false)) else (if (wrap64 ((wrap64 (t112 * a1)) + t114)) = a0 then (some false) else (some false))) else (if (wrap64 ((wrap64 (t112 * a1)) + t114)) = a0 then (if t114 < a1 then (if t114 = 0 then (some true) else (some ((decide (t114 < 0)) == (decide (a0 < 0))))) else (some false)) else (some false))) else (if (wrap64 ((wrap64 (t112 * a1)) + t114)) = a0 then (if t114 < a1 then (if t114 = 0 then (some true) else (some ((decide (t114 < 0)) == (decide (a0 < 0))))) else (some false)) else (some false))) else (if a1 < 0 then (if a1 > (-9223372036854775808) then (if t114 > a1 then (if (wrap64 ((wrap64 (t112 * a1)) + t114)) = a0 then (if t114 < (wrap64 (-a1)) then (if t114 = 0 then (some true) else (some ((decide (t114 < 0)) == (decide (a0 < 0))))) else (some false)) else (some false)) else (if (wrap64 ((wrap64 (t112 * a1)) + t114)) = a0 then (some false) else (some false))) else (if (wrap64 ((wrap64 (t112 * a1)) + t114)) = a0 then (some false) else (some false))) else (if (wrap64 ((wrap64 (t112 * a1)) + t114)) = a0 then (some false) else (some false)))))) = some r := by rw [if_neg (show ¬ (false = true) by decide)] at H; exact H
        clear H
        have H := H1
        clear H1
        by_cases c8 : a1 = 0
        · rw [if_pos c8] at H
          have c8b0 : (a1 == 0) = true := beq_iff_eq.mpr c8
          have c8b1 : (a1 != 0) = false := bne_eq_false_iff_eq.mpr c8
          clear c8
          by_cases c9 : t112 = 0
          · rw [if_pos c9] at H
            have c9b0 : (t112 == 0) = true := beq_iff_eq.mpr c9
            have c9b1 : (t112 != 0) = false := bne_eq_false_iff_eq.mpr c9
            clear c9
            obtain rfl := Option.some.inj H
            go_wp2
            go_ret
            exact ⟨by first | rfl | (simp; done) | (simp [*]; done), by repeat (first | exact Drawn0.refl _ | apply Drawn0.step)⟩
          · rw [if_neg c9] at H
            have c9b0 : (t112 == 0) = false := beq_eq_false_iff_ne.mpr c9
            have c9b1 : (t112 != 0) = true := bne_iff_ne.mpr c9
            obtain rfl := Option.some.inj H
            go_wp2
            go_ret
            exact ⟨by first | rfl | (simp; done) | (simp [*]; done), by repeat (first | exact Drawn0.refl _ | apply Drawn0.step)⟩
        · rw [if_neg c8] at H
          have c8b0 : (a1 == 0) = false := beq_eq_false_iff_ne.mpr c8
          have c8b1 : (a1 != 0) = true := bne_iff_ne.mpr c8
          by_cases c10 : a1 = (-9223372036854775808)
          · rw [if_pos c10] at H
            have c10b0 : (a1 == (-9223372036854775808)) = true := beq_iff_eq.mpr c10
            have c10b1 : (a1 != (-9223372036854775808)) = false := bne_eq_false_iff_eq.mpr c10
            clear c10
            by_cases c11 : a1 < 0
            · rw [if_pos c11] at H
              have c11b0 : decide (a1 < 0) = true := decide_eq_true c11
              clear c11
              by_cases c12 : a1 > (-9223372036854775808)
              · rw [if_pos c12] at H
                have c12b0 : decide ((-9223372036854775808) < a1) = true := decide_eq_true c12
                clear c12
                by_cases c13 : t114 > a1
                · rw [if_pos c13] at H
                  have c13b0 : decide (a1 < t114) = true := decide_eq_true c13
                  clear c13
                  by_cases c14 : (wrap64 ((wrap64 (t112 * a1)) + t114)) = a0
                  · rw [if_pos c14] at H
                    have c14b0 : ((wrap64 ((wrap64 (t112 * a1)) + t114)) == a0) = true := beq_iff_eq.mpr c14
                    have c14b1 : ((wrap64 ((wrap64 (t112 * a1)) + t114)) != a0) = false := bne_eq_false_iff_eq.mpr c14
                    clear c14
                    by_cases c15 : t114 < (wrap64 (-a1))
                    · rw [if_pos c15] at H
                      have c15b0 : decide (t114 < (wrap64 (-a1))) = true := decide_eq_true c15
                      clear c15
                      by_cases c16 : t114 = 0
                      · rw [if_pos c16] at H
                        have c16b0 : (t114 == 0) = true := beq_iff_eq.mpr c16
                        have c16b1 : (t114 != 0) = false := bne_eq_false_iff_eq.mpr c16
                        clear c16
                        obtain rfl := Option.some.inj H
                        go_wp2
                        go_ret
                        exact ⟨by first | rfl | (simp; done) | (simp [*]; done), by repeat (first | exact Drawn0.refl _ | apply Drawn0.step)⟩
                      · rw [if_neg c16] at H
                        have c16b0 : (t114 == 0) = false := beq_eq_false_iff_ne.mpr c16
                        have c16b1 : (t114 != 0) = true := bne_iff_ne.mpr c16
                        obtain rfl := Option.some.inj H
                        go_wp2
                        go_ret
                        exact ⟨by first | rfl | (simp; done) | (simp [*]; done), by repeat (first | exact Drawn0.refl _ | apply Drawn0.step)⟩
                    · rw [if_neg c15] at H
                      have c15b0 : decide (t114 < (wrap64 (-a1))) = false := decide_eq_false c15
                      clear c15
                      obtain rfl := Option.some.inj H
                      go_wp2
                      go_ret
                      exact ⟨by first | rfl | (simp; done) | (simp [*]; done), by repeat (first | exact Drawn0.refl _ | apply Drawn0.step)⟩
                  · rw [if_neg c14] at H
                    have c14b0 : ((wrap64 ((wrap64 (t112 * a1)) + t114)) == a0) = false := beq_eq_false_iff_ne.mpr c14
                    have c14b1 : ((wrap64 ((wrap64 (t112 * a1)) + t114)) != a0) = true := bne_iff_ne.mpr c14
                    obtain rfl := Option.some.inj H
                    go_wp2
                    go_ret
                    exact ⟨by first | rfl | (simp; done) | (simp [*]; done), by repeat (first | exact Drawn0.refl _ | apply Drawn0.step)⟩
                · rw [if_neg c13] at H
                  have c13b0 : decide (a1 < t114) = false := decide_eq_false c13
                  clear c13
                  by_cases c17 : (wrap64 ((wrap64 (t112 * a1)) + t114)) = a0
                  · rw [if_pos c17] at H
                    have c17b0 : ((wrap64 ((wrap64 (t112 * a1)) + t114)) == a0) = true := beq_iff_eq.mpr c17
                    have c17b1 : ((wrap64 ((wrap64 (t112 * a1)) + t114)) != a0) = false := bne_eq_false_iff_eq.mpr c17
                    clear c17
                    obtain rfl := Option.some.inj H
                    go_wp2
                    go_ret
                    exact ⟨by first | rfl | (simp; done) | (simp [*]; done), by repeat (first | exact Drawn0.refl _ | apply Drawn0.step)⟩
                  · rw [if_neg c17] at H
                    have c17b0 : ((wrap64 ((wrap64 (t112 * a1)) + t114)) == a0) = false := beq_eq_false_iff_ne.mpr c17
                    have c17b1 : ((wrap64 ((wrap64 (t112 * a1)) + t114)) != a0) = true := bne_iff_ne.mpr c17
                    obtain rfl := Option.some.inj H
                    go_wp2
                    go_ret
                    exact ⟨by first | rfl | (simp; done) | (simp [*]; done), by repeat (first | exact Drawn0.refl _ | apply Drawn0.step)⟩
              · rw [if_neg c12] at H
                have c12b0 : decide ((-9223372036854775808) < a1) = false := decide_eq_false c12
                clear c12
                by_cases c18 : (wrap64 ((wrap64 (t112 * a1)) + t114)) = a0
                · rw [if_pos c18] at H
                  have c18b0 : ((wrap64 ((wrap64 (t112 * a1)) + t114)) == a0) = true := beq_iff_eq.mpr c18
                  have c18b1 : ((wrap64 ((wrap64 (t112 * a1)) + t114)) != a0) = false := bne_eq_false_iff_eq.mpr c18
                  clear c18
                  by_cases c19 : t114 = 0
                  · rw [if_pos c19] at H
                    have c19b0 : (t114 == 0) = true := beq_iff_eq.mpr c19
                    have c19b1 : (t114 != 0) = false := bne_eq_false_iff_eq.mpr c19
                    clear c19
                    obtain rfl := Option.some.inj H
                    go_wp2
                    go_ret
                    exact ⟨by first | rfl | (simp; done) | (simp [*]; done), by repeat (first | exact Drawn0.refl _ | apply Drawn0.step)⟩
                  · rw [if_neg c19] at H
                    have c19b0 : (t114 == 0) = false := beq_eq_false_iff_ne.mpr c19
                    have c19b1 : (t114 != 0) = true := bne_iff_ne.mpr c19
                    obtain rfl := Option.some.inj H
                    go_wp2
                    go_ret
                    exact ⟨by first | rfl | (simp; done) | (simp [*]; done), by repeat (first | exact Drawn0.refl _ | apply Drawn0.step)⟩
                · rw [if_neg c18] at H
                  have c18b0 : ((wrap64 ((wrap64 (t112 * a1)) + t114)) == a0) = false := beq_eq_false_iff_ne.mpr c18
                  have c18b1 : ((wrap64 ((wrap64 (t112 * a1)) + t114)) != a0) = true := bne_iff_ne.mpr c18
                  obtain rfl := Option.some.inj H
                  go_wp2
                  go_ret
                  exact ⟨by first | rfl | (simp; done) | (simp [*]; done), by repeat (first | exact Drawn0.refl _ | apply Drawn0.step)⟩
            · rw [if_neg c11] at H
              have c11b0 : decide (a1 < 0) = false := decide_eq_false c11
              clear c11
              by_cases c20 : (wrap64 ((wrap64 (t112 * a1)) + t114)) = a0
              · rw [if_pos c20] at H
                have c20b0 : ((wrap64 ((wrap64 (t112 * a1)) + t114)) == a0) = true := beq_iff_eq.mpr c20
                have c20b1 : ((wrap64 ((wrap64 (t112 * a1)) + t114)) != a0) = false := bne_eq_false_iff_eq.mpr c20
                clear c20
                by_cases c21 : t114 = 0
                · rw [if_pos c21] at H
                  have c21b0 : (t114 == 0) = true := beq_iff_eq.mpr c21
                  have c21b1 : (t114 != 0) = false := bne_eq_false_iff_eq.mpr c21
                  clear c21
                  obtain rfl := Option.some.inj H
                  go_wp2
                  go_ret
                  exact ⟨by first | rfl | (simp; done) | (simp [*]; done), by repeat (first | exact Drawn0.refl _ | apply Drawn0.step)⟩
                · rw [if_neg c21] at H
                  have c21b0 : (t114 == 0) = false := beq_eq_false_iff_ne.mpr c21
                  have c21b1 : (t114 != 0) = true := bne_iff_ne.mpr c21
                  obtain rfl := Option.some.inj H
                  go_wp2
                  go_ret
                  exact ⟨by first | rfl | (simp; done) | (simp [*]; done), by repeat (first | exact Drawn0.refl _ | apply Drawn0.step)⟩
              · rw [if_neg c20] at H
                have c20b0 : ((wrap64 ((wrap64 (t112 * a1)) + t114)) == a0) = false := beq_eq_false_iff_ne.mpr c20
                have c20b1 : ((wrap64 ((wrap64 (t112 * a1)) + t114)) != a0) = true := bne_iff_ne.mpr c20
                obtain rfl := Option.some.inj H
                go_wp2
                go_ret
                exact ⟨by first | rfl | (simp; done) | (simp [*]; done), by repeat (first | exact Drawn0.refl _ | apply Drawn0.step)⟩
          · rw [if_neg c10] at H
            have c10b0 : (a1 == (-9223372036854775808)) = false := beq_eq_false_iff_ne.mpr c10
            have c10b1 : (a1 != (-9223372036854775808)) = true := bne_iff_ne.mpr c10
            by_cases c22 : t114 > (wrap64 (-a1))
            · rw [if_pos c22] at H
              have c22b0 : decide ((wrap64 (-a1)) < t114) = true := decide_eq_true c22
              clear c22
              by_cases c23 : a1 < 0
              · rw [if_pos c23] at H
                have c23b0 : decide (a1 < 0) = true := decide_eq_true c23
                clear c23
                by_cases c24 : a1 > (-9223372036854775808)
                · rw [if_pos c24] at H
                  have c24b0 : decide ((-9223372036854775808) < a1) = true := decide_eq_true c24
                  clear c24
                  by_cases c25 : t114 > a1
                  · rw [if_pos c25] at H
                    have c25b0 : decide (a1 < t114) = true := decide_eq_true c25
                    clear c25
                    by_cases c26 : (wrap64 ((wrap64 (t112 * a1)) + t114)) = a0
                    · rw [if_pos c26] at H
                      have c26b0 : ((wrap64 ((wrap64 (t112 * a1)) + t114)) == a0) = true := beq_iff_eq.mpr c26
                      have c26b1 : ((wrap64 ((wrap64 (t112 * a1)) + t114)) != a0) = false := bne_eq_false_iff_eq.mpr c26
                      clear c26
                      by_cases c27 : t114 < (wrap64 (-a1))
                      · rw [if_pos c27] at H
                        have c27b0 : decide (t114 < (wrap64 (-a1))) = true := decide_eq_true c27
                        clear c27
                        by_cases c28 : t114 = 0
                        · rw [if_pos c28] at H
                          have c28b0 : (t114 == 0) = true := beq_iff_eq.mpr c28
                          have c28b1 : (t114 != 0) = false := bne_eq_false_iff_eq.mpr c28
                          clear c28
                          obtain rfl := Option.some.inj H
                          go_wp2
                          go_ret
                          exact ⟨by first | rfl | (simp; done) | (simp [*]; done), by repeat (first | exact Drawn0.refl _ | apply Drawn0.step)⟩
                        · rw [if_neg c28] at H
                          have c28b0 : (t114 == 0) = false := beq_eq_false_iff_ne.mpr c28
                          have c28b1 : (t114 != 0) = true := bne_iff_ne.mpr c28
                          obtain rfl := Option.some.inj H
                          go_wp2
                          go_ret
                          exact ⟨by first | rfl | (simp; done) | (simp [*]; done), by repeat (first | exact Drawn0.refl _ | apply Drawn0.step)⟩
                      · rw [if_neg c27] at H
                        have c27b0 : decide (t114 < (wrap64 (-a1))) = false := decide_eq_false c27
                        clear c27
                        obtain rfl := Option.some.inj H
                        go_wp2
                        go_ret
                        exact ⟨by first | rfl | (simp; done) | (simp [*]; done), by repeat (first | exact Drawn0.refl _ | apply Drawn0.step)⟩
                    · rw [if_neg c26] at H
                      have c26b0 : ((wrap64 ((wrap64 (t112 * a1)) + t114)) == a0) = false := beq_eq_false_iff_ne.mpr c26
                      have c26b1 : ((wrap64 ((wrap64 (t112 * a1)) + t114)) != a0) = true := bne_iff_ne.mpr c26
                      obtain rfl := Option.some.inj H
                      go_wp2
                      go_ret
                      exact ⟨by first | rfl | (simp; done) | (simp [*]; done), by repeat (first | exact Drawn0.refl _ | apply Drawn0.step)⟩
                  · rw [if_neg c25] at H
                    have c25b0 : decide (a1 < t114) = false := decide_eq_false c25
                    clear c25
                    by_cases c29 : (wrap64 ((wrap64 (t112 * a1)) + t114)) = a0
                    · rw [if_pos c29] at H
                      have c29b0 : ((wrap64 ((wrap64 (t112 * a1)) + t114)) == a0) = true := beq_iff_eq.mpr c29
                      have c29b1 : ((wrap64 ((wrap64 (t112 * a1)) + t114)) != a0) = false := bne_eq_false_iff_eq.mpr c29
                      clear c29
                      obtain rfl := Option.some.inj H
                      go_wp2
                      go_ret
                      exact ⟨by first | rfl | (simp; done) | (simp [*]; done), by repeat (first | exact Drawn0.refl _ | apply Drawn0.step)⟩
                    · rw [if_neg c29] at H
                      have c29b0 : ((wrap64 ((wrap64 (t112 * a1)) + t114)) == a0) = false := beq_eq_false_iff_ne.mpr c29
                      have c29b1 : ((wrap64 ((wrap64 (t112 * a1)) + t114)) != a0) = true := bne_iff_ne.mpr c29
                      obtain rfl := Option.some.inj H
                      go_wp2
                      go_ret
                      exact ⟨by first | rfl | (simp; done) | (simp [*]; done), by repeat (first | exact Drawn0.refl _ | apply Drawn0.step)⟩
                · rw [if_neg c24] at H
                  have c24b0 : decide ((-9223372036854775808) < a1) = false := decide_eq_false c24
                  clear c24
                  by_cases c30 : (wrap64 ((wrap64 (t112 * a1)) + t114)) = a0
                  · rw [if_pos c30] at H
                    have c30b0 : ((wrap64 ((wrap64 (t112 * a1)) + t114)) == a0) = true := beq_iff_eq.mpr c30
                    have c30b1 : ((wrap64 ((wrap64 (t112 * a1)) + t114)) != a0) = false := bne_eq_false_iff_eq.mpr c30
                    clear c30
                    by_cases c31 : t114 < a1
                    · rw [if_pos c31] at H
                      have c31b0 : decide (t114 < a1) = true := decide_eq_true c31
                      clear c31
                      by_cases c32 : t114 = 0
                      · rw [if_pos c32] at H
                        have c32b0 : (t114 == 0) = true := beq_iff_eq.mpr c32
                        have c32b1 : (t114 != 0) = false := bne_eq_false_iff_eq.mpr c32
                        clear c32
                        obtain rfl := Option.some.inj H
                        go_wp2
                        go_ret
                        exact ⟨by first | rfl | (simp; done) | (simp [*]; done), by repeat (first | exact Drawn0.refl _ | apply Drawn0.step)⟩
                      · rw [if_neg c32] at H
                        have c32b0 : (t114 == 0) = false := beq_eq_false_iff_ne.mpr c32
                        have c32b1 : (t114 != 0) = true := bne_iff_ne.mpr c32
                        obtain rfl := Option.some.inj H
                        go_wp2
                        go_ret
                        exact ⟨by first | rfl | (simp; done) | (simp [*]; done), by repeat (first | exact Drawn0.refl _ | apply Drawn0.step)⟩
                    · rw [if_neg c31] at H
                      have c31b0 : decide (t114 < a1) = false := decide_eq_false c31
                      clear c31
                      obtain rfl := Option.some.inj H
                      go_wp2
                      go_ret
                      exact ⟨by first | rfl | (simp; done) | (simp [*]; done), by repeat (first | exact Drawn0.refl _ | apply Drawn0.step)⟩
                  · rw [if_neg c30] at H
                    have c30b0 : ((wrap64 ((wrap64 (t112 * a1)) + t114)) == a0) = false := beq_eq_false_iff_ne.mpr c30
                    have c30b1 : ((wrap64 ((wrap64 (t112 * a1)) + t114)) != a0) = true := bne_iff_ne.mpr c30
                    obtain rfl := Option.some.inj H
                    go_wp2
                    go_ret
                    exact ⟨by first | rfl | (simp; done) | (simp [*]; done), by repeat (first | exact Drawn0.refl _ | apply Drawn0.step)⟩
              · rw [if_neg c23] at H
                have c23b0 : decide (a1 < 0) = false := decide_eq_false c23
                clear c23
                by_cases c33 : (wrap64 ((wrap64 (t112 * a1)) + t114)) = a0
                · rw [if_pos c33] at H
                  have c33b0 : ((wrap64 ((wrap64 (t112 * a1)) + t114)) == a0) = true := beq_iff_eq.mpr c33
                  have c33b1 : ((wrap64 ((wrap64 (t112 * a1)) + t114)) != a0) = false := bne_eq_false_iff_eq.mpr c33
                  clear c33
                  by_cases c34 : t114 < a1
                  · rw [if_pos c34] at H
                    have c34b0 : decide (t114 < a1) = true := decide_eq_true c34
                    clear c34
                    by_cases c35 : t114 = 0
                    · rw [if_pos c35] at H
                      have c35b0 : (t114 == 0) = true := beq_iff_eq.mpr c35
                      have c35b1 : (t114 != 0) = false := bne_eq_false_iff_eq.mpr c35
                      clear c35
                      obtain rfl := Option.some.inj H
                      go_wp2
                      go_ret
                      exact ⟨by first | rfl | (simp; done) | (simp [*]; done), by repeat (first | exact Drawn0.refl _ | apply Drawn0.step)⟩
                    · rw [if_neg c35] at H
                      have c35b0 : (t114 == 0) = false := beq_eq_false_iff_ne.mpr c35
                      have c35b1 : (t114 != 0) = true := bne_iff_ne.mpr c35
                      obtain rfl := Option.some.inj H
                      go_wp2
                      go_ret
                      exact ⟨by first | rfl | (simp; done) | (simp [*]; done), by repeat (first | exact Drawn0.refl _ | apply Drawn0.step)⟩
                  · rw [if_neg c34] at H
                    have c34b0 : decide (t114 < a1) = false := decide_eq_false c34
                    clear c34
                    obtain rfl := Option.some.inj H
                    go_wp2
                    go_ret
                    exact ⟨by first | rfl | (simp; done) | (simp [*]; done), by repeat (first | exact Drawn0.refl _ | apply Drawn0.step)⟩
                · rw [if_neg c33] at H
                  have c33b0 : ((wrap64 ((wrap64 (t112 * a1)) + t114)) == a0) = false := beq_eq_false_iff_ne.mpr c33
                  have c33b1 : ((wrap64 ((wrap64 (t112 * a1)) + t114)) != a0) = true := bne_iff_ne.mpr c33
                  obtain rfl := Option.some.inj H
                  go_wp2
                  go_ret
                  exact ⟨by first | rfl | (simp; done) | (simp [*]; done), by repeat (first | exact Drawn0.refl _ | apply Drawn0.step)⟩
            · rw [if_neg c22] at H
              have c22b0 : decide ((wrap64 (-a1)) < t114) = false := decide_eq_false c22
              clear c22
              by_cases c36 : a1 < 0
              · rw [if_pos c36] at H
                have c36b0 : decide (a1 < 0) = true := decide_eq_true c36
                clear c36
                by_cases c37 : a1 > (-9223372036854775808)
                · rw [if_pos c37] at H
                  have c37b0 : decide ((-9223372036854775808) < a1) = true := decide_eq_true c37
                  clear c37
                  by_cases c38 : t114 > a1
                  · rw [if_pos c38] at H
                    have c38b0 : decide (a1 < t114) = true := decide_eq_true c38
                    clear c38
                    by_cases c39 : (wrap64 ((wrap64 (t112 * a1)) + t114)) = a0
                    · rw [if_pos c39] at H
                      have c39b0 : ((wrap64 ((wrap64 (t112 * a1)) + t114)) == a0) = true := beq_iff_eq.mpr c39
                      have c39b1 : ((wrap64 ((wrap64 (t112 * a1)) + t114)) != a0) = false := bne_eq_false_iff_eq.mpr c39
                      clear c39
                      by_cases c40 : t114 < (wrap64 (-a1))
                      · rw [if_pos c40] at H
                        have c40b0 : decide (t114 < (wrap64 (-a1))) = true := decide_eq_true c40
                        clear c40
                        by_cases c41 : t114 = 0
                        · rw [if_pos c41] at H
                          have c41b0 : (t114 == 0) = true := beq_iff_eq.mpr c41
                          have c41b1 : (t114 != 0) = false := bne_eq_false_iff_eq.mpr c41
                          clear c41
                          obtain rfl := Option.some.inj H
                          go_wp2
                          go_ret
                          exact ⟨by first | rfl | (simp; done) | (simp [*]; done), by repeat (first | exact Drawn0.refl _ | apply Drawn0.step)⟩
                        · rw [if_neg c41] at H
                          have c41b0 : (t114 == 0) = false := beq_eq_false_iff_ne.mpr c41
                          have c41b1 : (t114 != 0) = true := bne_iff_ne.mpr c41
                          obtain rfl := Option.some.inj H
                          go_wp2
                          go_ret
                          exact ⟨by first | rfl | (simp; done) | (simp [*]; done), by repeat (first | exact Drawn0.refl _ | apply Drawn0.step)⟩
                      · rw [if_neg c40] at H
                        have c40b0 : decide (t114 < (wrap64 (-a1))) = false := decide_eq_false c40
                        clear c40
                        obtain rfl := Option.some.inj H
                        go_wp2
                        go_ret
                        exact ⟨by first | rfl | (simp; done) | (simp [*]; done), by repeat (first | exact Drawn0.refl _ | apply Drawn0.step)⟩
                    · rw [if_neg c39] at H
                      have c39b0 : ((wrap64 ((wrap64 (t112 * a1)) + t114)) == a0) = false := beq_eq_false_iff_ne.mpr c39
                      have c39b1 : ((wrap64 ((wrap64 (t112 * a1)) + t114)) != a0) = true := bne_iff_ne.mpr c39
                      obtain rfl := Option.some.inj H
                      go_wp2
                      go_ret
                      exact ⟨by first | rfl | (simp; done) | (simp [*]; done), by repeat (first | exact Drawn0.refl _ | apply Drawn0.step)⟩
                  · rw [if_neg c38] at H
                    have c38b0 : decide (a1 < t114) = false := decide_eq_false c38
                    clear c38
                    by_cases c42 : (wrap64 ((wrap64 (t112 * a1)) + t114)) = a0
                    · rw [if_pos c42] at H
                      have c42b0 : ((wrap64 ((wrap64 (t112 * a1)) + t114)) == a0) = true := beq_iff_eq.mpr c42
                      have c42b1 : ((wrap64 ((wrap64 (t112 * a1)) + t114)) != a0) = false := bne_eq_false_iff_eq.mpr c42
                      clear c42
                      obtain rfl := Option.some.inj H
                      go_wp2
                      go_ret
                      exact ⟨by first | rfl | (simp; done) | (simp [*]; done), by repeat (first | exact Drawn0.refl _ | apply Drawn0.step)⟩
                    · rw [if_neg c42] at H
                      have c42b0 : ((wrap64 ((wrap64 (t112 * a1)) + t114)) == a0) = false := beq_eq_false_iff_ne.mpr c42
                      have c42b1 : ((wrap64 ((wrap64 (t112 * a1)) + t114)) != a0) = true := bne_iff_ne.mpr c42
                      obtain rfl := Option.some.inj H
                      go_wp2
                      go_ret
                      exact ⟨by first | rfl | (simp; done) | (simp [*]; done), by repeat (first | exact Drawn0.refl _ | apply Drawn0.step)⟩
                · rw [if_neg c37] at H
                  have c37b0 : decide ((-9223372036854775808) < a1) = false := decide_eq_false c37
                  clear c37
                  by_cases c43 : (wrap64 ((wrap64 (t112 * a1)) + t114)) = a0
                  · rw [if_pos c43] at H
                    have c43b0 : ((wrap64 ((wrap64 (t112 * a1)) + t114)) == a0) = true := beq_iff_eq.mpr c43
                    have c43b1 : ((wrap64 ((wrap64 (t112 * a1)) + t114)) != a0) = false := bne_eq_false_iff_eq.mpr c43
                    clear c43
                    obtain rfl := Option.some.inj H
                    go_wp2
                    go_ret
                    exact ⟨by first | rfl | (simp; done) | (simp [*]; done), by repeat (first | exact Drawn0.refl _ | apply Drawn0.step)⟩
                  · rw [if_neg c43] at H
                    have c43b0 : ((wrap64 ((wrap64 (t112 * a1)) + t114)) == a0) = false := beq_eq_false_iff_ne.mpr c43
                    have c43b1 : ((wrap64 ((wrap64 (t112 * a1)) + t114)) != a0) = true := bne_iff_ne.mpr c43
                    obtain rfl := Option.some.inj H
                    go_wp2
                    go_ret
                    exact ⟨by first | rfl | (simp; done) | (simp [*]; done), by repeat (first | exact Drawn0.refl _ | apply Drawn0.step)⟩
              · rw [if_neg c36] at H
                have c36b0 : decide (a1 < 0) = false := decide_eq_false c36
                clear c36
                by_cases c44 : (wrap64 ((wrap64 (t112 * a1)) + t114)) = a0
                · rw [if_pos c44] at H
                  have c44b0 : ((wrap64 ((wrap64 (t112 * a1)) + t114)) == a0) = true := beq_iff_eq.mpr c44
                  have c44b1 : ((wrap64 ((wrap64 (t112 * a1)) + t114)) != a0) = false := bne_eq_false_iff_eq.mpr c44
                  clear c44
                  obtain rfl := Option.some.inj H
                  go_wp2
                  go_ret
                  exact ⟨by first | rfl | (simp; done) | (simp [*]; done), by repeat (first | exact Drawn0.refl _ | apply Drawn0.step)⟩
                · rw [if_neg c44] at H
                  have c44b0 : ((wrap64 ((wrap64 (t112 * a1)) + t114)) == a0) = false := beq_eq_false_iff_ne.mpr c44
                  have c44b1 : ((wrap64 ((wrap64 (t112 * a1)) + t114)) != a0) = true := bne_iff_ne.mpr c44
                  obtain rfl := Option.some.inj H
                  go_wp2
                  go_ret
                  exact ⟨by first | rfl | (simp; done) | (simp [*]; done), by repeat (first | exact Drawn0.refl _ | apply Drawn0.step)⟩

/-- THE ONE PURE STATEMENT of interleavelaw05_EvalQuotients: yours. -/
def interleavelaw05_EvalQuotients.Pure : Prop := ∀ (a0 : Int) (a1 : Int), (Lit.int .i64 a0).wf = true → (Lit.int .i64 a1).wf = true → ∃ k, interleavelaw05_EvalQuotients.f k a0 a1 = some true
theorem interleavelaw05_EvalQuotients.walk (P : interleavelaw05_EvalQuotients.Pure) (a0 : Int) (a1 : Int) (w : World) (w0 : (Lit.int .i64 a0).wf = true) (w1 : (Lit.int .i64 a1).wf = true) :
    Calls Try.prog 3 #[.int .i64 a0, .int .i64 a1] w fun e w' => e = .returned (.bool true) ∧ Below w.heap.size w w' := by
  obtain ⟨k, h⟩ := P a0 a1 w0 w1
  refine (interleavelaw05_EvalQuotients.calls k a0 a1 true w h).mono ?_
  rintro e w' ⟨rfl, hd⟩
  exact ⟨rfl, hd.below⟩

end Go.Proofs.Ytgoefoilghjfhaa.PEvalQuotients
