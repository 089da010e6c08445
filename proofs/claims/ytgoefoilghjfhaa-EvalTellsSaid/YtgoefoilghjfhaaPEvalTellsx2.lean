-- PRINTED BY print.sh 35421559b90ae4d0a3588c463048766b98c2df88dd9212a6774a882060cdf62d: not written by this session
import Derived.Test.YtgoefoilghjfhaaPEvalTellsx0
import Derived.Test.YtgoefoilghjfhaaPEvalTellsx1
namespace Go.Proofs.Ytgoefoilghjfhaa.PEvalTells
open Go.RowKit Go.Proofs.YtgoefoilghjfhaaW.PrintWords Go.Proofs.YtgoefoilghjfhaaW.PrintLast Go.Proofs.YtgoefoilghjfhaaW.PrintMore
attribute [local go_sem] max2_int min2_int max_two min_two max_three min_three max_four min_four   -- for this text's walks alone
set_option linter.unusedVariables false
set_option linter.unusedSimpArgs false

/-! ### interleavelaw05_tells: function 11 -/
def interleavelaw05_tells.f (k : Nat) (a0 : Int) (a1 : Int) (a2 : Int) : Option (Bool) := (eval_Unary.f a0 a1).bind fun bt126 => ((interleaveref05_Unary.f a0 a1).bind fun bt128 => ((eval_Binary.f k a0 a1 a2).bind fun bt130 => ((interleaveref05_Binary.f a0 a1 a2).bind fun bt132 => (if bt126.1 = bt128.1 then (if (bt126.2 == bt128.2) = true then (if bt130.1 = bt132.1 then (if (bt130.2 == bt132.2) = true then ((interleavelaw05_awake.f k).bind fun t134 => (some t134)) else (some false)) else (some false)) else (some false)) else (some false)))))
theorem interleavelaw05_tells.mono : ∀ a0 a1 a2 k, LeO (interleavelaw05_tells.f k a0 a1 a2) (interleavelaw05_tells.f (k + 1) a0 a1 a2) := by
  intro a0 a1 a2 k
  unfold interleavelaw05_tells.f
  repeat' first
      | (with_reducible exact eval_Binary.mono _ _ _ _)
      | (with_reducible exact interleavelaw05_awake.mono _)
      | (with_reducible exact LeO.refl _)
      | (with_reducible exact LeO.none _)
      | (with_reducible refine LeO.ite ?_ ?_)
      | (with_reducible refine LeO.bind ?_ (fun _ => ?_))
      | exact eval_Binary.mono _ _ _ _
      | exact interleavelaw05_awake.mono _
      | exact LeO.none _
      | refine LeO.ite ?_ ?_
      | refine LeO.bind ?_ (fun _ => ?_)
set_option maxHeartbeats 8000000 in
set_option maxRecDepth 100000 in
theorem interleavelaw05_tells.calls (k : Nat) (a0 : Int) (a1 : Int) (a2 : Int) (r : Bool) (w : World) (h : interleavelaw05_tells.f k a0 a1 a2 = some r) :
    Calls Try.prog 11 #[.int .i64 a0, .int .i64 a1, .int .i64 a2] w fun e w' => e = .returned (.bool r) ∧ Drawn0 w w' := by
  have H : ((eval_Unary.f a0 a1).bind fun bt126 => ((interleaveref05_Unary.f a0 a1).bind fun bt128 => ((eval_Binary.f k a0 a1 a2).bind fun bt130 => ((interleaveref05_Binary.f a0 a1 a2).bind fun bt132 => (if bt126.1 = bt128.1 then (if (bt126.2 == bt128.2) = true then (if bt130.1 = bt132.1 then (if (bt130.2 == bt132.2) = true then ((interleavelaw05_awake.f k).bind fun t134 => (some t134)) else (some false)) else (some false)) else (some false)) else (some false)))))) = some r := h
  clear h
  replace H := Option.bind_eq_some_iff.mp H
  obtain ⟨⟨t126, t127⟩, A40, H⟩ := H
  replace H : ((interleaveref05_Unary.f a0 a1).bind fun bt128 => ((eval_Binary.f k a0 a1 a2).bind fun bt130 => ((interleaveref05_Binary.f a0 a1 a2).bind fun bt132 => (if t126 = bt128.1 then (if (t127 == bt128.2) = true then (if bt130.1 = bt132.1 then (if (bt130.2 == bt132.2) = true then ((interleavelaw05_awake.f k).bind fun t134 => (some t134)) else (some false)) else (some false)) else (some false)) else (some false))))) = some r := H
  have A4 := Aside0.mk A40
  clear A40
  replace H := Option.bind_eq_some_iff.mp H
  obtain ⟨⟨t128, t129⟩, A50, H⟩ := H
  replace H : ((eval_Binary.f k a0 a1 a2).bind fun bt130 => ((interleaveref05_Binary.f a0 a1 a2).bind fun bt132 => (if t126 = t128 then (if (t127 == t129) = true then (if bt130.1 = bt132.1 then (if (bt130.2 == bt132.2) = true then ((interleavelaw05_awake.f k).bind fun t134 => (some t134)) else (some false)) else (some false)) else (some false)) else (some false)))) = some r := H
  have A5 := Aside0.mk A50
  clear A50
  replace H := Option.bind_eq_some_iff.mp H
  obtain ⟨⟨t130, t131⟩, A60, H⟩ := H
  replace H : ((interleaveref05_Binary.f a0 a1 a2).bind fun bt132 => (if t126 = t128 then (if (t127 == t129) = true then (if t130 = bt132.1 then (if (t131 == bt132.2) = true then ((interleavelaw05_awake.f k).bind fun t134 => (some t134)) else (some false)) else (some false)) else (some false)) else (some false))) = some r := H
  have A6 := Aside0.mk A60
  clear A60
  replace H := Option.bind_eq_some_iff.mp H
  obtain ⟨⟨t132, t133⟩, A70, H⟩ := H
  replace H : (if t126 = t128 then (if (t127 == t129) = true then (if t130 = t132 then (if (t131 == t133) = true then ((interleavelaw05_awake.f k).bind fun t134 => (some t134)) else (some false)) else (some false)) else (some false)) else (some false)) = some r := H
  have A7 := Aside0.mk A70
  clear A70
  by_cases c8 : t126 = t128
  · rw [if_pos c8] at H
    have c8b0 : (t126 == t128) = true := beq_iff_eq.mpr c8
    have c8b1 : (t126 != t128) = false := bne_eq_false_iff_eq.mpr c8
    clear c8
    by_cases c9 : (t127 == t129) = true
    · rw [if_pos c9] at H
      have c9b0 : (t127 == t129) = true := c9
      (try (have c9b1 : decide (t127 = t129) = true := by simpa using c9))
      (try (have c9b2 : (t127 == t129) = true := by simpa using c9))
      clear c9
      by_cases c10 : t130 = t132
      · rw [if_pos c10] at H
        have c10b0 : (t130 == t132) = true := beq_iff_eq.mpr c10
        have c10b1 : (t130 != t132) = false := bne_eq_false_iff_eq.mpr c10
        clear c10
        by_cases c11 : (t131 == t133) = true
        · rw [if_pos c11] at H
          have c11b0 : (t131 == t133) = true := c11
          (try (have c11b1 : decide (t131 = t133) = true := by simpa using c11))
          (try (have c11b2 : (t131 == t133) = true := by simpa using c11))
          clear c11
          replace H := Option.bind_eq_some_iff.mp H
          obtain ⟨t134, A120, H⟩ := H
          replace H : (some t134) = some r := H
          have A12 := Aside0.mk A120
          clear A120
          obtain rfl := Option.some.inj H
          go_enter Try.func11, Try.ntmps11
          go_wp2_with (first | ((with_reducible refine gate_callee (f := 12) rfl ?_); refine goesL_ (some 18) rfl rfl Try.func12 (by kernel_rfl) rfl #[.int .i64 a0, .int .i64 a1] rfl (by (try simp only [List.map_toArray, List.map_cons, List.map_nil]); first | done | rfl | (simp only [List.length_drop, List.length_take]; rfl)) ?_; (with_reducible refine (eval_Unary.calls a0 a1 t126 t127 _ A4.out).mono ?_); rintro e w' ⟨rfl, ⟨nd, rfl⟩⟩; refine ⟨_, rfl, ?_⟩) | ((with_reducible refine gate_callee (f := 23) rfl ?_); refine goesL_ (some 24) rfl rfl Try.func23 (by kernel_rfl) rfl #[.int .i64 a0, .int .i64 a1] rfl (by (try simp only [List.map_toArray, List.map_cons, List.map_nil]); first | done | rfl | (simp only [List.length_drop, List.length_take]; rfl)) ?_; (with_reducible refine (interleaveref05_Unary.calls a0 a1 t128 t129 _ A5.out).mono ?_); rintro e w' ⟨rfl, ⟨nd, rfl⟩⟩; refine ⟨_, rfl, ?_⟩) | ((with_reducible refine gate_callee (f := 10) rfl ?_); refine goesL_ (some 31) rfl rfl Try.func10 (by kernel_rfl) rfl #[.int .i64 a0, .int .i64 a1, .int .i64 a2] rfl (by (try simp only [List.map_toArray, List.map_cons, List.map_nil]); first | done | rfl | (simp only [List.length_drop, List.length_take]; rfl)) ?_; (with_reducible refine (eval_Binary.calls k a0 a1 a2 t130 t131 _ A6.out).mono ?_); rintro e w' ⟨rfl, ⟨nd, rfl⟩⟩; refine ⟨_, rfl, ?_⟩) | ((with_reducible refine gate_callee (f := 24) rfl ?_); refine goesL_ (some 38) rfl rfl Try.func24 (by kernel_rfl) rfl #[.int .i64 a0, .int .i64 a1, .int .i64 a2] rfl (by (try simp only [List.map_toArray, List.map_cons, List.map_nil]); first | done | rfl | (simp only [List.length_drop, List.length_take]; rfl)) ?_; (with_reducible refine (interleaveref05_Binary.calls a0 a1 a2 t132 t133 _ A7.out).mono ?_); rintro e w' ⟨rfl, ⟨nd, rfl⟩⟩; refine ⟨_, rfl, ?_⟩) | (go_at_call 13; (with_reducible refine (interleavelaw05_awake.calls k  t134 _ A12.out).mono ?_); rintro e w' ⟨rfl, ⟨nd, rfl⟩⟩))
          go_ret
          exact ⟨by first | rfl | (simp; done) | (simp [*]; done), by repeat (first | exact Drawn0.refl _ | apply Drawn0.step)⟩
        · rw [if_neg c11] at H
          have c11b0 : (t131 == t133) = false := by simpa using c11
          (try (have c11b1 : decide (t131 = t133) = false := by simpa using c11))
          (try (have c11b2 : (t131 == t133) = false := by simpa using c11))
          (try (have c11b3 : ¬ (t131 = t133) := by simpa using c11))
          clear c11
          obtain rfl := Option.some.inj H
          go_enter Try.func11, Try.ntmps11
          go_wp2_with (first | ((with_reducible refine gate_callee (f := 12) rfl ?_); refine goesL_ (some 18) rfl rfl Try.func12 (by kernel_rfl) rfl #[.int .i64 a0, .int .i64 a1] rfl (by (try simp only [List.map_toArray, List.map_cons, List.map_nil]); first | done | rfl | (simp only [List.length_drop, List.length_take]; rfl)) ?_; (with_reducible refine (eval_Unary.calls a0 a1 t126 t127 _ A4.out).mono ?_); rintro e w' ⟨rfl, ⟨nd, rfl⟩⟩; refine ⟨_, rfl, ?_⟩) | ((with_reducible refine gate_callee (f := 23) rfl ?_); refine goesL_ (some 24) rfl rfl Try.func23 (by kernel_rfl) rfl #[.int .i64 a0, .int .i64 a1] rfl (by (try simp only [List.map_toArray, List.map_cons, List.map_nil]); first | done | rfl | (simp only [List.length_drop, List.length_take]; rfl)) ?_; (with_reducible refine (interleaveref05_Unary.calls a0 a1 t128 t129 _ A5.out).mono ?_); rintro e w' ⟨rfl, ⟨nd, rfl⟩⟩; refine ⟨_, rfl, ?_⟩) | ((with_reducible refine gate_callee (f := 10) rfl ?_); refine goesL_ (some 31) rfl rfl Try.func10 (by kernel_rfl) rfl #[.int .i64 a0, .int .i64 a1, .int .i64 a2] rfl (by (try simp only [List.map_toArray, List.map_cons, List.map_nil]); first | done | rfl | (simp only [List.length_drop, List.length_take]; rfl)) ?_; (with_reducible refine (eval_Binary.calls k a0 a1 a2 t130 t131 _ A6.out).mono ?_); rintro e w' ⟨rfl, ⟨nd, rfl⟩⟩; refine ⟨_, rfl, ?_⟩) | ((with_reducible refine gate_callee (f := 24) rfl ?_); refine goesL_ (some 38) rfl rfl Try.func24 (by kernel_rfl) rfl #[.int .i64 a0, .int .i64 a1, .int .i64 a2] rfl (by (try simp only [List.map_toArray, List.map_cons, List.map_nil]); first | done | rfl | (simp only [List.length_drop, List.length_take]; rfl)) ?_; (with_reducible refine (interleaveref05_Binary.calls a0 a1 a2 t132 t133 _ A7.out).mono ?_); rintro e w' ⟨rfl, ⟨nd, rfl⟩⟩; refine ⟨_, rfl, ?_⟩))
          go_ret
          exact ⟨by first | rfl | (simp; done) | (simp [*]; done), by repeat (first | exact Drawn0.refl _ | apply Drawn0.step)⟩
      · rw [if_neg c10] at H
        have c10b0 : (t130 == t132) = false := beq_eq_false_iff_ne.mpr c10
        have c10b1 : (t130 != t132) = true := bne_iff_ne.mpr c10
        obtain rfl := Option.some.inj H
        go_enter Try.func11, Try.ntmps11
        go_wp2_with (first | ((with_reducible refine gate_callee (f := 12) rfl ?_); refine goesL_ (some 18) rfl rfl Try.func12 (by kernel_rfl) rfl #[.int .i64 a0, .int .i64 a1] rfl (by (try simp only [List.map_toArray, List.map_cons, List.map_nil]); first | done | rfl | (simp only [List.length_drop, List.length_take]; rfl)) ?_; (with_reducible refine (eval_Unary.calls a0 a1 t126 t127 _ A4.out).mono ?_); rintro e w' ⟨rfl, ⟨nd, rfl⟩⟩; refine ⟨_, rfl, ?_⟩) | ((with_reducible refine gate_callee (f := 23) rfl ?_); refine goesL_ (some 24) rfl rfl Try.func23 (by kernel_rfl) rfl #[.int .i64 a0, .int .i64 a1] rfl (by (try simp only [List.map_toArray, List.map_cons, List.map_nil]); first | done | rfl | (simp only [List.length_drop, List.length_take]; rfl)) ?_; (with_reducible refine (interleaveref05_Unary.calls a0 a1 t128 t129 _ A5.out).mono ?_); rintro e w' ⟨rfl, ⟨nd, rfl⟩⟩; refine ⟨_, rfl, ?_⟩) | ((with_reducible refine gate_callee (f := 10) rfl ?_); refine goesL_ (some 31) rfl rfl Try.func10 (by kernel_rfl) rfl #[.int .i64 a0, .int .i64 a1, .int .i64 a2] rfl (by (try simp only [List.map_toArray, List.map_cons, List.map_nil]); first | done | rfl | (simp only [List.length_drop, List.length_take]; rfl)) ?_; (with_reducible refine (eval_Binary.calls k a0 a1 a2 t130 t131 _ A6.out).mono ?_); rintro e w' ⟨rfl, ⟨nd, rfl⟩⟩; refine ⟨_, rfl, ?_⟩) | ((with_reducible refine gate_callee (f := 24) rfl ?_); refine goesL_ (some 38) rfl rfl Try.func24 (by kernel_rfl) rfl #[.int .i64 a0, .int .i64 a1, .int .i64 a2] rfl (by (try simp only [List.map_toArray, List.map_cons, List.map_nil]); first | done | rfl | (simp only [List.length_drop, List.length_take]; rfl)) ?_; (with_reducible refine (interleaveref05_Binary.calls a0 a1 a2 t132 t133 _ A7.out).mono ?_); rintro e w' ⟨rfl, ⟨nd, rfl⟩⟩; refine ⟨_, rfl, ?_⟩))
        go_ret
        exact ⟨by first | rfl | (simp; done) | (simp [*]; done), by repeat (first | exact Drawn0.refl _ | apply Drawn0.step)⟩
    · rw [if_neg c9] at H
      have c9b0 : (t127 == t129) = false := by simpa using c9
      (try (have c9b1 : decide (t127 = t129) = false := by simpa using c9))
      (try (have c9b2 : (t127 == t129) = false := by simpa using c9))
      (try (have c9b3 : ¬ (t127 = t129) := by simpa using c9))
      clear c9
      obtain rfl := Option.some.inj H
      go_enter Try.func11, Try.ntmps11
      go_wp2_with (first | ((with_reducible refine gate_callee (f := 12) rfl ?_); refine goesL_ (some 18) rfl rfl Try.func12 (by kernel_rfl) rfl #[.int .i64 a0, .int .i64 a1] rfl (by (try simp only [List.map_toArray, List.map_cons, List.map_nil]); first | done | rfl | (simp only [List.length_drop, List.length_take]; rfl)) ?_; (with_reducible refine (eval_Unary.calls a0 a1 t126 t127 _ A4.out).mono ?_); rintro e w' ⟨rfl, ⟨nd, rfl⟩⟩; refine ⟨_, rfl, ?_⟩) | ((with_reducible refine gate_callee (f := 23) rfl ?_); refine goesL_ (some 24) rfl rfl Try.func23 (by kernel_rfl) rfl #[.int .i64 a0, .int .i64 a1] rfl (by (try simp only [List.map_toArray, List.map_cons, List.map_nil]); first | done | rfl | (simp only [List.length_drop, List.length_take]; rfl)) ?_; (with_reducible refine (interleaveref05_Unary.calls a0 a1 t128 t129 _ A5.out).mono ?_); rintro e w' ⟨rfl, ⟨nd, rfl⟩⟩; refine ⟨_, rfl, ?_⟩) | ((with_reducible refine gate_callee (f := 10) rfl ?_); refine goesL_ (some 31) rfl rfl Try.func10 (by kernel_rfl) rfl #[.int .i64 a0, .int .i64 a1, .int .i64 a2] rfl (by (try simp only [List.map_toArray, List.map_cons, List.map_nil]); first | done | rfl | (simp only [List.length_drop, List.length_take]; rfl)) ?_; (with_reducible refine (eval_Binary.calls k a0 a1 a2 t130 t131 _ A6.out).mono ?_); rintro e w' ⟨rfl, ⟨nd, rfl⟩⟩; refine ⟨_, rfl, ?_⟩) | ((with_reducible refine gate_callee (f := 24) rfl ?_); refine goesL_ (some 38) rfl rfl Try.func24 (by kernel_rfl) rfl #[.int .i64 a0, .int .i64 a1, .int .i64 a2] rfl (by (try simp only [List.map_toArray, List.map_cons, List.map_nil]); first | done | rfl | (simp only [List.length_drop, List.length_take]; rfl)) ?_; (with_reducible refine (interleaveref05_Binary.calls a0 a1 a2 t132 t133 _ A7.out).mono ?_); rintro e w' ⟨rfl, ⟨nd, rfl⟩⟩; refine ⟨_, rfl, ?_⟩))
      go_ret
      exact ⟨by first | rfl | (simp; done) | (simp [*]; done), by repeat (first | exact Drawn0.refl _ | apply Drawn0.step)⟩
  · rw [if_neg c8] at H
    have c8b0 : (t126 == t128) = false := beq_eq_false_iff_ne.mpr c8
    have c8b1 : (t126 != t128) = true := bne_iff_ne.mpr c8
    obtain rfl := Option.some.inj H
    go_enter Try.func11, Try.ntmps11
    go_wp2_with (first | ((with_reducible refine gate_callee (f := 12) rfl ?_); refine goesL_ (some 18) rfl rfl Try.func12 (by kernel_rfl) rfl #[.int .i64 a0, .int .i64 a1] rfl (by (try simp only [List.map_toArray, List.map_cons, List.map_nil]); first | done | rfl | (simp only [List.length_drop, List.length_take]; rfl)) ?_; (with_reducible refine (eval_Unary.calls a0 a1 t126 t127 _ A4.out).mono ?_); rintro e w' ⟨rfl, ⟨nd, rfl⟩⟩; refine ⟨_, rfl, ?_⟩) | ((with_reducible refine gate_callee (f := 23) rfl ?_); refine goesL_ (some 24) rfl rfl Try.func23 (by kernel_rfl) rfl #[.int .i64 a0, .int .i64 a1] rfl (by (try simp only [List.map_toArray, List.map_cons, List.map_nil]); first | done | rfl | (simp only [List.length_drop, List.length_take]; rfl)) ?_; (with_reducible refine (interleaveref05_Unary.calls a0 a1 t128 t129 _ A5.out).mono ?_); rintro e w' ⟨rfl, ⟨nd, rfl⟩⟩; refine ⟨_, rfl, ?_⟩) | ((with_reducible refine gate_callee (f := 10) rfl ?_); refine goesL_ (some 31) rfl rfl Try.func10 (by kernel_rfl) rfl #[.int .i64 a0, .int .i64 a1, .int .i64 a2] rfl (by (try simp only [List.map_toArray, List.map_cons, List.map_nil]); first | done | rfl | (simp only [List.length_drop, List.length_take]; rfl)) ?_; (with_reducible refine (eval_Binary.calls k a0 a1 a2 t130 t131 _ A6.out).mono ?_); rintro e w' ⟨rfl, ⟨nd, rfl⟩⟩; refine ⟨_, rfl, ?_⟩) | ((with_reducible refine gate_callee (f := 24) rfl ?_); refine goesL_ (some 38) rfl rfl Try.func24 (by kernel_rfl) rfl #[.int .i64 a0, .int .i64 a1, .int .i64 a2] rfl (by (try simp only [List.map_toArray, List.map_cons, List.map_nil]); first | done | rfl | (simp only [List.length_drop, List.length_take]; rfl)) ?_; (with_reducible refine (interleaveref05_Binary.calls a0 a1 a2 t132 t133 _ A7.out).mono ?_); rintro e w' ⟨rfl, ⟨nd, rfl⟩⟩; refine ⟨_, rfl, ?_⟩))
    go_ret
    exact ⟨by first | rfl | (simp; done) | (simp [*]; done), by repeat (first | exact Drawn0.refl _ | apply Drawn0.step)⟩

/-! ### interleavelaw05_EvalTells: function 4 -/
def interleavelaw05_EvalTells.l0 : Nat → Int → Int → Int → Int → Option (Bool)
  | 0, _, _, _, _ => none
  | k + 1, x0, x1, x2, x7 => if x7 ≤ 19 then ((interleavelaw05_tells.f k x7 x1 x2).bind fun t135 => (if t135 = true then (interleavelaw05_EvalTells.l0 k x0 x1 x2 (wrap64 (x7 + 1))) else (some false))) else ((interleavelaw05_tells.f k x0 x1 x2).bind fun t136 => (some t136))
def interleavelaw05_EvalTells.f (k : Nat) (a0 : Int) (a1 : Int) (a2 : Int) : Option (Bool) := interleavelaw05_EvalTells.l0 k a0 a1 a2 0
theorem interleavelaw05_EvalTells.mono_l : ∀ k, (∀ y0 y1 y2 y3, LeO (interleavelaw05_EvalTells.l0 k y0 y1 y2 y3) (interleavelaw05_EvalTells.l0 (k + 1) y0 y1 y2 y3))
  | 0 => fun _ _ _ _ r h => by simp [interleavelaw05_EvalTells.l0] at h
  | k + 1 => by
    have ih0 := interleavelaw05_EvalTells.mono_l k
    · intro y0 y1 y2 y3
      unfold interleavelaw05_EvalTells.l0
      repeat' first
      | (with_reducible exact ih0 _ _ _ _)
      | (with_reducible exact interleavelaw05_tells.mono _ _ _ _)
      | (with_reducible exact LeO.refl _)
      | (with_reducible exact LeO.none _)
      | (with_reducible refine LeO.ite ?_ ?_)
      | (with_reducible refine LeO.bind ?_ (fun _ => ?_))
      | exact ih0 _ _ _ _
      | exact interleavelaw05_tells.mono _ _ _ _
      | exact LeO.none _
      | refine LeO.ite ?_ ?_
      | refine LeO.bind ?_ (fun _ => ?_)
theorem interleavelaw05_EvalTells.mono : ∀ a0 a1 a2 k, LeO (interleavelaw05_EvalTells.f k a0 a1 a2) (interleavelaw05_EvalTells.f (k + 1) a0 a1 a2) := by
  intro a0 a1 a2 k
  have ih0 := interleavelaw05_EvalTells.mono_l k
  unfold interleavelaw05_EvalTells.f
  repeat' first
      | (with_reducible exact ih0 _ _ _ _)
      | (with_reducible exact interleavelaw05_tells.mono _ _ _ _)
      | (with_reducible exact LeO.refl _)
      | (with_reducible exact LeO.none _)
      | (with_reducible refine LeO.ite ?_ ?_)
      | (with_reducible refine LeO.bind ?_ (fun _ => ?_))
      | exact ih0 _ _ _ _
      | exact interleavelaw05_tells.mono _ _ _ _
      | exact LeO.none _
      | refine LeO.ite ?_ ?_
      | refine LeO.bind ?_ (fun _ => ?_)
set_option maxHeartbeats 8000000 in
set_option maxRecDepth 100000 in
theorem interleavelaw05_EvalTells.calls (k : Nat) (a0 : Int) (a1 : Int) (a2 : Int) (r : Bool) (w : World) (h : interleavelaw05_EvalTells.f k a0 a1 a2 = some r) :
    Calls Try.prog 4 #[.int .i64 a0, .int .i64 a1, .int .i64 a2] w fun e w' => e = .returned (.bool r) ∧ Drawn0 w w' := by
  have H : (interleavelaw05_EvalTells.l0 k a0 a1 a2 0) = some r := h
  clear h
  have H' := Aside0.mk H
  clear H
  go_enter Try.func4, Try.ntmps4
  go_wp2
  go_loopg [7] k (fun kq v7 w' => ∃ (x7_1 : Int), v7 = .int .i64 x7_1 ∧ Aside0 (interleavelaw05_EvalTells.l0 kq a0 a1 a2 x7_1 = some r) ∧ Aside0 (kq ≤ k) ∧ Drawn0 w w')
  case atStart => exact ⟨(0), (by first | rfl | (simp; done) | (simp [*]; done)), H', ⟨Nat.le_refl _⟩, by repeat (first | exact Drawn0.refl _ | apply Drawn0.step)⟩
  case round =>
    clear H'
    try clear p2
    obtain ⟨x7_1, rfl, HA, HK1, ⟨m1, rfl⟩⟩ := hrel
    cases gk with
    | zero => exact absurd HA.out (by simp [interleavelaw05_EvalTells.l0])
    | succ k1 =>
      have H := HA.out
      clear HA
      simp only [interleavelaw05_EvalTells.l0] at H
      by_cases c4 : x7_1 ≤ 19
      · rw [if_pos c4] at H
        have c4b0 : decide (x7_1 ≤ 19) = true := decide_eq_true c4
        clear c4
        replace H := Option.bind_eq_some_iff.mp H
        obtain ⟨t135, A50, H⟩ := H
        replace H : (if t135 = true then (interleavelaw05_EvalTells.l0 k1 a0 a1 a2 (wrap64 (x7_1 + 1))) else (some false)) = some r := H
        have A5 := Aside0.mk A50
        clear A50
        by_cases c6 : t135 = true
        · subst c6
          have H1 : (interleavelaw05_EvalTells.l0 k1 a0 a1 a2 (wrap64 (x7_1 + 1))) = some r := by rw [if_pos rfl] at H; exact H
          clear H
          have H := H1
          clear H1
          have H' := Aside0.mk H
          clear H
          go_wp2_with (first | ((with_reducible refine gate_callee (f := 11) rfl ?_); refine goesL_ (some 15) rfl rfl Try.func11 (by kernel_rfl) rfl #[.int .i64 x7_1, .int .i64 a1, .int .i64 a2] rfl (by (try simp only [List.map_toArray, List.map_cons, List.map_nil]); first | done | rfl | (simp only [List.length_drop, List.length_take]; rfl)) ?_; (with_reducible refine (interleavelaw05_tells.calls k1 x7_1 a1 a2 true _ A5.out).mono ?_); rintro e w' ⟨rfl, ⟨nd, rfl⟩⟩; refine ⟨_, rfl, ?_⟩))
          go_roundg k1
          case measure => have := HK1.out; omega
          case rel => exact ⟨(wrap64 (x7_1 + 1)), (by first | rfl | (simp; done) | (simp [*]; done)), H', ⟨by have := HK1.out; omega⟩, by repeat (first | exact Drawn0.refl _ | apply Drawn0.step)⟩
        · replace c6 := Bool.eq_false_iff.mpr c6
          subst c6
          have H1 : (some false) = some r := by rw [if_neg (show ¬ (false = true) by decide)] at H; exact H
          clear H
          have H := H1
          clear H1
          obtain rfl := Option.some.inj H
          go_wp2_with (first | ((with_reducible refine gate_callee (f := 11) rfl ?_); refine goesL_ (some 15) rfl rfl Try.func11 (by kernel_rfl) rfl #[.int .i64 x7_1, .int .i64 a1, .int .i64 a2] rfl (by (try simp only [List.map_toArray, List.map_cons, List.map_nil]); first | done | rfl | (simp only [List.length_drop, List.length_take]; rfl)) ?_; (with_reducible refine (interleavelaw05_tells.calls k1 x7_1 a1 a2 false _ A5.out).mono ?_); rintro e w' ⟨rfl, ⟨nd, rfl⟩⟩; refine ⟨_, rfl, ?_⟩))
          go_ret
          exact ⟨by first | rfl | (simp; done) | (simp [*]; done), by repeat (first | exact Drawn0.refl _ | apply Drawn0.step)⟩
      · rw [if_neg c4] at H
        have c4b0 : decide (x7_1 ≤ 19) = false := decide_eq_false c4
        clear c4
        replace H := Option.bind_eq_some_iff.mp H
        obtain ⟨t136, A70, H⟩ := H
        replace H : (some t136) = some r := H
        have A7 := Aside0.mk A70
        clear A70
        obtain rfl := Option.some.inj H
        go_wp2_with (first | ((with_reducible refine gate_callee (f := 11) rfl ?_); refine goesL_ (some 20) rfl rfl Try.func11 (by kernel_rfl) rfl #[.int .i64 a0, .int .i64 a1, .int .i64 a2] rfl (by (try simp only [List.map_toArray, List.map_cons, List.map_nil]); first | done | rfl | (simp only [List.length_drop, List.length_take]; rfl)) ?_; (with_reducible refine (interleavelaw05_tells.calls k1 a0 a1 a2 t136 _ A7.out).mono ?_); rintro e w' ⟨rfl, ⟨nd, rfl⟩⟩; refine ⟨_, rfl, ?_⟩))
        go_ret
        exact ⟨by first | rfl | (simp; done) | (simp [*]; done), by repeat (first | exact Drawn0.refl _ | apply Drawn0.step)⟩

/-- THE ONE PURE STATEMENT of interleavelaw05_EvalTells: yours. -/
def interleavelaw05_EvalTells.Pure : Prop := ∀ (a0 : Int) (a1 : Int) (a2 : Int), (Lit.int .i64 a0).wf = true → (Lit.int .i64 a1).wf = true → (Lit.int .i64 a2).wf = true → ∃ k, interleavelaw05_EvalTells.f k a0 a1 a2 = some true
theorem interleavelaw05_EvalTells.walk (P : interleavelaw05_EvalTells.Pure) (a0 : Int) (a1 : Int) (a2 : Int) (w : World) (w0 : (Lit.int .i64 a0).wf = true) (w1 : (Lit.int .i64 a1).wf = true) (w2 : (Lit.int .i64 a2).wf = true) :
    Calls Try.prog 4 #[.int .i64 a0, .int .i64 a1, .int .i64 a2] w fun e w' => e = .returned (.bool true) ∧ Below w.heap.size w w' := by
  obtain ⟨k, h⟩ := P a0 a1 a2 w0 w1 w2
  refine (interleavelaw05_EvalTells.calls k a0 a1 a2 true w h).mono ?_
  rintro e w' ⟨rfl, hd⟩
  exact ⟨rfl, hd.below⟩

end Go.Proofs.Ytgoefoilghjfhaa.PEvalTells
