-- Written by a program of this session (wip/myprint in its repo: the kit's print with additions of its own).
import Derived.Test.YtolfnlamknmeaaaMDiffSystemsx0
namespace Go.Proofs.Ytolfnlamknmeaaa.MDiffSystems
open Go.RowKit Go.Proofs.YtolfnlamknmeaaaW.PrintWords Go.Proofs.YtolfnlamknmeaaaW.PrintLast Go.Proofs.YtolfnlamknmeaaaW.PrintMore
attribute [local go_sem] max2_int min2_int max_two min_two max_three min_three max_four min_four   -- for this text's walks alone
set_option linter.unusedVariables false
set_option linter.unusedSimpArgs false

/-! ### interleaveref31_Cycle: function 20 -/
mutual
def interleaveref31_Cycle.l0 : Nat → List (S36) → List Int → Int → List Int → Int → Int → Option (Bool)
  | 0, _, _, _, _, _, _ => none
  | k + 1, x0, x1, x5, x9, x10, x11 => if x11 < x10 then (if 0 ≤ x11 then (if x11 < (x9.length : Int) then (if (rd x9 x11) < 0 then (interleaveref31_Cycle.j1 k x0 x1 x5 x11 (rd x9 x11) x9 x10 x11 true) else (interleaveref31_Cycle.j1 k x0 x1 x5 x11 (rd x9 x11) x9 x10 x11 (decide ((rd x9 x11) ≥ (x0.length : Int))))) else (none)) else (none)) else (if (x1.length : Int) > 0 then (some (decide (x5 < 0))) else (some false))
def interleaveref31_Cycle.j1 : Nat → List (S36) → List Int → Int → Int → Int → List Int → Int → Int → Bool → Option (Bool)
  | 0, _, _, _, _, _, _, _, _, _ => none
  | k + 1, x0, x1, x5, x6, x7, x9, x10, x11, x23 => if x23 = true then (some false) else (if (x1.length : Int) = 0 then (none) else (if 0 ≤ (Int.tmod (wrap64 (x6 + 1)) (x1.length : Int)) then (if (Int.tmod (wrap64 (x6 + 1)) (x1.length : Int)) < (x1.length : Int) then (if (rd x1 (Int.tmod (wrap64 (x6 + 1)) (x1.length : Int))) < 0 then (some false) else (if (rd x1 (Int.tmod (wrap64 (x6 + 1)) (x1.length : Int))) ≥ (x0.length : Int) then (some false) else (if 0 ≤ x7 then (if x7 < (x0.length : Int) then (if 0 ≤ (rd x1 (Int.tmod (wrap64 (x6 + 1)) (x1.length : Int))) then (if (rd x1 (Int.tmod (wrap64 (x6 + 1)) (x1.length : Int))) < (x0.length : Int) then (if ((rd_T36 x0 x7).f1) = ((rd_T36 x0 (rd x1 (Int.tmod (wrap64 (x6 + 1)) (x1.length : Int)))).f0) then (interleaveref31_Cycle.l0 k x0 x1 (wrap64 (x5 + ((rd_T36 x0 x7).f2))) x9 x10 (wrap64 (x11 + 1))) else (some false)) else (none)) else (none)) else (none)) else (none)))) else (none)) else (none)))
end
def interleaveref31_Cycle.f (k : Nat) (l0 : List (S36)) (l1 : List Int) : Option (Bool) := interleaveref31_Cycle.l0 k l0 l1 0 l1 (l1.length : Int) 0
theorem interleaveref31_Cycle.mono_l : ∀ k, (∀ y0 y1 y2 y3 y4 y5, LeO (interleaveref31_Cycle.l0 k y0 y1 y2 y3 y4 y5) (interleaveref31_Cycle.l0 (k + 1) y0 y1 y2 y3 y4 y5)) ∧ (∀ y0 y1 y2 y3 y4 y5 y6 y7 y8, LeO (interleaveref31_Cycle.j1 k y0 y1 y2 y3 y4 y5 y6 y7 y8) (interleaveref31_Cycle.j1 (k + 1) y0 y1 y2 y3 y4 y5 y6 y7 y8))
  | 0 => ⟨fun _ _ _ _ _ _ r h => by simp [interleaveref31_Cycle.l0] at h, fun _ _ _ _ _ _ _ _ _ r h => by simp [interleaveref31_Cycle.j1] at h⟩
  | k + 1 => by
    obtain ⟨ih0, ih1⟩ := interleaveref31_Cycle.mono_l k
    refine ⟨?_, ?_⟩
    · intro y0 y1 y2 y3 y4 y5
      unfold interleaveref31_Cycle.l0
      repeat' first
      | (with_reducible exact ih0 _ _ _ _ _ _)
      | (with_reducible exact ih1 _ _ _ _ _ _ _ _ _)
      | (with_reducible exact LeO.refl _)
      | (with_reducible exact LeO.none _)
      | (with_reducible refine LeO.ite ?_ ?_)
      | (with_reducible refine LeO.bind ?_ (fun _ => ?_))
      | exact ih0 _ _ _ _ _ _
      | exact ih1 _ _ _ _ _ _ _ _ _
      | exact LeO.none _
      | refine LeO.ite ?_ ?_
      | refine LeO.bind ?_ (fun _ => ?_)
    · intro y0 y1 y2 y3 y4 y5 y6 y7 y8
      unfold interleaveref31_Cycle.j1
      repeat' first
      | (with_reducible exact ih0 _ _ _ _ _ _)
      | (with_reducible exact ih1 _ _ _ _ _ _ _ _ _)
      | (with_reducible exact LeO.refl _)
      | (with_reducible exact LeO.none _)
      | (with_reducible refine LeO.ite ?_ ?_)
      | (with_reducible refine LeO.bind ?_ (fun _ => ?_))
      | exact ih0 _ _ _ _ _ _
      | exact ih1 _ _ _ _ _ _ _ _ _
      | exact LeO.none _
      | refine LeO.ite ?_ ?_
      | refine LeO.bind ?_ (fun _ => ?_)
theorem interleaveref31_Cycle.mono : ∀ a0 a1 k, LeO (interleaveref31_Cycle.f k a0 a1) (interleaveref31_Cycle.f (k + 1) a0 a1) := by
  intro a0 a1 k
  obtain ⟨ih0, ih1⟩ := interleaveref31_Cycle.mono_l k
  unfold interleaveref31_Cycle.f
  repeat' first
      | (with_reducible exact ih0 _ _ _ _ _ _)
      | (with_reducible exact ih1 _ _ _ _ _ _ _ _ _)
      | (with_reducible exact LeO.refl _)
      | (with_reducible exact LeO.none _)
      | (with_reducible refine LeO.ite ?_ ?_)
      | (with_reducible refine LeO.bind ?_ (fun _ => ?_))
      | exact ih0 _ _ _ _ _ _
      | exact ih1 _ _ _ _ _ _ _ _ _
      | exact LeO.none _
      | refine LeO.ite ?_ ?_
      | refine LeO.bind ?_ (fun _ => ?_)
set_option maxHeartbeats 8000000 in
set_option maxRecDepth 100000 in
theorem interleaveref31_Cycle.calls (k : Nat) (A0 : Option Addr) (c0 : Nat) (l0 : List (S36)) (A1 : Option Addr) (c1 : Nat) (l1 : List Int) (r : Bool) (w : World) (hr0 : Kd.C k36 w A0 l0.length l0) (hc0 : l0.length ≤ c0) (hr1 : Kd.C (Kd.int .i64) w A1 l1.length l1) (hc1 : l1.length ≤ c1) (h : interleaveref31_Cycle.f k l0 l1 = some r) :
    Calls Try.prog 20 #[.slice A0 l0.length c0, .slice A1 l1.length c1] w fun e w' => e = .returned (.bool r) ∧ Drawn0 w w' := by
  have HR0 := Aside0.mk hr0
  have HC0 := Aside0.mk hc0
  clear hr0 hc0
  have HR1 := Aside0.mk hr1
  have HC1 := Aside0.mk hc1
  clear hr1 hc1
  have H : (interleaveref31_Cycle.l0 k l0 l1 0 l1 (l1.length : Int) 0) = some r := h
  clear h
  have H' := Aside0.mk H
  clear H
  go_enter Try.func20, Try.ntmps20
  go_wp2
  repeat (go_quiet (fail); try go_wp2)
  go_loopg [5, 11] k (fun kq v5 v11 w' => ∃ (x5_1 : Int) (x11_1 : Int), v5 = .int .i64 x5_1 ∧ v11 = .int .i64 x11_1 ∧ Aside0 (interleaveref31_Cycle.l0 kq l0 l1 x5_1 l1 (l1.length : Int) x11_1 = some r) ∧ Aside0 (kq ≤ k) ∧ Drawn0 w w')
  case atStart => exact ⟨(0), (0), (by first | rfl | (simp; done) | (simp [*]; done)), (by first | rfl | (simp; done) | (simp [*]; done)), H', ⟨Nat.le_refl _⟩, by repeat (first | exact Drawn0.refl _ | apply Drawn0.step)⟩
  case round =>
    clear H'
    try clear c1
    try clear c2
    try clear p2
    obtain ⟨x5_1, x11_1, rfl, rfl, HA, HK1, ⟨m1, rfl⟩⟩ := hrel
    cases gk with
    | zero => exact absurd HA.out (by simp [interleaveref31_Cycle.l0])
    | succ k1 =>
      have H := HA.out
      clear HA
      simp only [interleaveref31_Cycle.l0] at H
      by_cases c3 : x11_1 < (l1.length : Int)
      · rw [if_pos c3] at H
        have c3b0 : decide (x11_1 < (l1.length : Int)) = true := decide_eq_true c3
        clear c3
        by_cases c4 : 0 ≤ x11_1
        · rw [if_pos c4] at H
          have c4b0 : decide (0 ≤ x11_1) = true := decide_eq_true c4
          clear c4
          by_cases c5 : x11_1 < (l1.length : Int)
          · rw [if_pos c5] at H
            have c5b0 : decide (x11_1 < (l1.length : Int)) = true := decide_eq_true c5
            clear c5
            have HC6 := Aside0.mk H
            clear H
            have p156 : 0 ≤ (x11_1 : Int) := of_decide_eq_true (by first | (with_reducible assumption) | assumption)
            have q156 : x11_1 < (l1.length : Int) := of_decide_eq_true (by first | (with_reducible assumption) | assumption)
            obtain ⟨ad156, e156, hx156_0⟩ := Kd.at_int HR1.out x11_1 p156 q156
            cases e156
            replace p156 := eq_true p156
            replace q156 := eq_true q156
            go_upto_region 5 with (fail)
            repeat (go_quiet (fail); go_upto_region 5 with (fail))
            go_cut [23] (fun v23 wc => ∃ (kq : Nat) (x23_5 : Bool), v23 = .bool x23_5 ∧ Aside0 (interleaveref31_Cycle.j1 kq l0 l1 x5_1 x11_1 (rd l1 x11_1) l1 (l1.length : Int) x11_1 x23_5 = some r) ∧ Aside0 (kq ≤ k1) ∧ Drawn0 w wc)
            case first =>
              have H := HC6.out
              clear HC6
              by_cases c7 : (rd l1 x11_1) < 0
              · rw [if_pos c7] at H
                have c7b0 : decide ((rd l1 x11_1) < 0) = true := decide_eq_true c7
                clear c7
                (first | rw [c7b0] | (simp only [i64_w, i32_w]; rw [c7b0]) | skip)
                have H' := Aside0.mk H
                clear H
                go_wp2
                repeat (go_quiet (fail); try go_wp2)
                go_meet
                case rel => exact ⟨_, (true), (by first | rfl | (simp; done) | (simp [*]; done)), H', ⟨by have := HK1.out; first | omega | exact Nat.le_refl _⟩, by repeat (first | exact Drawn0.refl _ | apply Drawn0.step)⟩
              · rw [if_neg c7] at H
                have c7b0 : decide ((rd l1 x11_1) < 0) = false := decide_eq_false c7
                clear c7
                (first | rw [c7b0] | (simp only [i64_w, i32_w]; rw [c7b0]) | skip)
                have H' := Aside0.mk H
                clear H
                go_wp2
                repeat (go_quiet (fail); try go_wp2)
                go_meet
                case rel => exact ⟨_, (decide ((rd l1 x11_1) ≥ (l0.length : Int))), (by first | rfl | (simp; done) | (simp [*]; done)), H', ⟨by have := HK1.out; first | omega | exact Nat.le_refl _⟩, by repeat (first | exact Drawn0.refl _ | apply Drawn0.step)⟩
            case rest =>
              clear HC6
              try clear c1
              try clear p1
              try clear q1
              try clear hx1
              try clear c2
              try clear p2
              try clear c3
              try clear c3b0
              try clear c4
              try clear c4b0
              try clear c5
              try clear c5b0
              try clear c7
              try clear c7b0
              try clear hx156_0
              try clear p156
              try clear p2
              try clear q156
              obtain ⟨kq, x23_5, rfl, HA, HJ5, ⟨mc5, rfl⟩⟩ := hcut
              cases kq with
              | zero => exact absurd HA.out (by simp [interleaveref31_Cycle.j1])
              | succ kj5 =>
                have H := HA.out
                clear HA
                simp only [interleaveref31_Cycle.j1] at H
                by_cases c8 : x23_5 = true
                · subst c8
                  have H1 : (some false) = some r := by rw [if_pos rfl] at H; exact H
                  clear H
                  have H := H1
                  clear H1
                  obtain rfl := Option.some.inj H
                  go_wp2
                  repeat (go_quiet (fail); try go_wp2)
                  go_ret
                  exact ⟨by first | rfl | (simp; done) | (simp [*]; done), by repeat (first | exact Drawn0.refl _ | apply Drawn0.step)⟩
                · replace c8 := Bool.eq_false_iff.mpr c8
                  subst c8
                  have H1 : (if (l1.length : Int) = 0 then (none) else (if 0 ≤ (Int.tmod (wrap64 (x11_1 + 1)) (l1.length : Int)) then (if (Int.tmod (wrap64 (x11_1 + 1)) (l1.length : Int)) < (l1.length : Int) then (if (rd l1 (Int.tmod (wrap64 (x11_1 + 1)) (l1.length : Int))) < 0 then (some false) else (if (rd l1 (Int.tmod (wrap64 (x11_1 + 1)) (l1.length : Int))) ≥ (l0.length : Int) then (some false) else (if 0 ≤ (rd l1 x11_1) then (if (rd l1 x11_1) < (l0.length : Int) then (if 0 ≤ (rd l1 (Int.tmod (wrap64 (x11_1 + 1)) (l1.length : Int))) then (if (rd l1 (Int.tmod (wrap64 (x11_1 + 1)) (l1.length : Int))) < (l0.length : Int) then (if ((rd_T36 l0 (rd l1 x11_1)).f1) = ((rd_T36 l0 (rd l1 (Int.tmod (wrap64 (x11_1 + 1)) (l1.length : Int)))).f0) then (interleaveref31_Cycle.l0 kj5 l0 l1 (wrap64 (x5_1 + ((rd_T36 l0 (rd l1 x11_1)).f2))) l1 (l1.length : Int) (wrap64 (x11_1 + 1))) else (some false)) else (none)) else (none)) else (none)) else (none)))) else (none)) else (none))) = some r := by rw [if_neg (show ¬ (false = true) by decide)] at H; exact H
                  clear H
                  have H := H1
                  clear H1
                  by_cases c9 : (l1.length : Int) = 0
                  · rw [if_pos c9] at H
                    exact absurd H (by simp)
                  · rw [if_neg c9] at H
                    have c9b0 : ((l1.length : Int) == 0) = false := beq_eq_false_iff_ne.mpr c9
                    have c9b1 : ((l1.length : Int) != 0) = true := bne_iff_ne.mpr c9
                    have c9b2 : ¬ (l1 = []) := fun h_ => c9 (by rw [h_]; rfl)
                    obtain ⟨ji10, hji10⟩ : ∃ j_ : Int, (Int.tmod (wrap64 (x11_1 + 1)) (l1.length : Int)) = j_ := ⟨_, rfl⟩
                    replace H : (if 0 ≤ (ji10) then (if (ji10) < (l1.length : Int) then (if (rd l1 (ji10)) < 0 then (some false) else (if (rd l1 (ji10)) ≥ (l0.length : Int) then (some false) else (if 0 ≤ (rd l1 x11_1) then (if (rd l1 x11_1) < (l0.length : Int) then (if 0 ≤ (rd l1 (ji10)) then (if (rd l1 (ji10)) < (l0.length : Int) then (if ((rd_T36 l0 (rd l1 x11_1)).f1) = ((rd_T36 l0 (rd l1 (ji10))).f0) then (interleaveref31_Cycle.l0 kj5 l0 l1 (wrap64 (x5_1 + ((rd_T36 l0 (rd l1 x11_1)).f2))) l1 (l1.length : Int) (wrap64 (x11_1 + 1))) else (some false)) else (none)) else (none)) else (none)) else (none)))) else (none)) else (none)) = some r := by first | (rw [hji10] at H; exact H) | (simp only [hji10] at H ⊢; exact H)
                    by_cases c11 : 0 ≤ (ji10)
                    · rw [if_pos c11] at H
                      have c11b0 : decide (0 ≤ (ji10)) = true := decide_eq_true c11
                      clear c11
                      by_cases c12 : (ji10) < (l1.length : Int)
                      · rw [if_pos c12] at H
                        have c12b0 : decide ((ji10) < (l1.length : Int)) = true := decide_eq_true c12
                        clear c12
                        by_cases c13 : (rd l1 (ji10)) < 0
                        · rw [if_pos c13] at H
                          have c13b0 : decide ((rd l1 (ji10)) < 0) = true := decide_eq_true c13
                          clear c13
                          obtain rfl := Option.some.inj H
                          have p157 : 0 ≤ ((ji10) : Int) := of_decide_eq_true (by first | (with_reducible assumption) | assumption)
                          have q157 : (ji10) < (l1.length : Int) := of_decide_eq_true (by first | (with_reducible assumption) | assumption)
                          obtain ⟨ad157, e157, hx157_0⟩ := Kd.at_int HR1.out (ji10) p157 q157
                          obtain rfl : ad156 = ad157 := (by injection e157)
                          replace p157 := eq_true p157
                          replace q157 := eq_true q157
                          go_wp2
                          repeat (go_quiet (fail); try go_wp2)
                          go_ret
                          exact ⟨by first | rfl | (simp; done) | (simp only [← hji10] <;> (first | rfl | simp)) | (simp [*]; done), by repeat (first | exact Drawn0.refl _ | apply Drawn0.step)⟩
                        · rw [if_neg c13] at H
                          have c13b0 : decide ((rd l1 (ji10)) < 0) = false := decide_eq_false c13
                          clear c13
                          by_cases c14 : (rd l1 (ji10)) ≥ (l0.length : Int)
                          · rw [if_pos c14] at H
                            have c14b0 : decide ((l0.length : Int) ≤ (rd l1 (ji10))) = true := decide_eq_true c14
                            clear c14
                            obtain rfl := Option.some.inj H
                            have p157 : 0 ≤ ((ji10) : Int) := of_decide_eq_true (by first | (with_reducible assumption) | assumption)
                            have q157 : (ji10) < (l1.length : Int) := of_decide_eq_true (by first | (with_reducible assumption) | assumption)
                            obtain ⟨ad157, e157, hx157_0⟩ := Kd.at_int HR1.out (ji10) p157 q157
                            obtain rfl : ad156 = ad157 := (by injection e157)
                            replace p157 := eq_true p157
                            replace q157 := eq_true q157
                            go_wp2
                            repeat (go_quiet (fail); try go_wp2)
                            go_ret
                            exact ⟨by first | rfl | (simp; done) | (simp only [← hji10] <;> (first | rfl | simp)) | (simp [*]; done), by repeat (first | exact Drawn0.refl _ | apply Drawn0.step)⟩
                          · rw [if_neg c14] at H
                            have c14b0 : decide ((l0.length : Int) ≤ (rd l1 (ji10))) = false := decide_eq_false c14
                            clear c14
                            by_cases c15 : 0 ≤ (rd l1 x11_1)
                            · rw [if_pos c15] at H
                              have c15b0 : decide (0 ≤ (rd l1 x11_1)) = true := decide_eq_true c15
                              clear c15
                              by_cases c16 : (rd l1 x11_1) < (l0.length : Int)
                              · rw [if_pos c16] at H
                                have c16b0 : decide ((rd l1 x11_1) < (l0.length : Int)) = true := decide_eq_true c16
                                clear c16
                                by_cases c17 : 0 ≤ (rd l1 (ji10))
                                · rw [if_pos c17] at H
                                  have c17b0 : decide (0 ≤ (rd l1 (ji10))) = true := decide_eq_true c17
                                  clear c17
                                  by_cases c18 : (rd l1 (ji10)) < (l0.length : Int)
                                  · rw [if_pos c18] at H
                                    have c18b0 : decide ((rd l1 (ji10)) < (l0.length : Int)) = true := decide_eq_true c18
                                    clear c18
                                    by_cases c19 : ((rd_T36 l0 (rd l1 x11_1)).f1) = ((rd_T36 l0 (rd l1 (ji10))).f0)
                                    · rw [if_pos c19] at H
                                      have c19b0 : (((rd_T36 l0 (rd l1 x11_1)).f1) == ((rd_T36 l0 (rd l1 (ji10))).f0)) = true := beq_iff_eq.mpr c19
                                      have c19b1 : (((rd_T36 l0 (rd l1 x11_1)).f1) != ((rd_T36 l0 (rd l1 (ji10))).f0)) = false := bne_eq_false_iff_eq.mpr c19
                                      clear c19
                                      have H' := Aside0.mk H
                                      clear H
                                      have p157 : 0 ≤ ((ji10) : Int) := of_decide_eq_true (by first | (with_reducible assumption) | assumption)
                                      have q157 : (ji10) < (l1.length : Int) := of_decide_eq_true (by first | (with_reducible assumption) | assumption)
                                      obtain ⟨ad157, e157, hx157_0⟩ := Kd.at_int HR1.out (ji10) p157 q157
                                      obtain rfl : ad156 = ad157 := (by injection e157)
                                      replace p157 := eq_true p157
                                      replace q157 := eq_true q157
                                      have p158 : 0 ≤ ((rd l1 x11_1) : Int) := of_decide_eq_true (by first | (with_reducible assumption) | assumption)
                                      have q158 : (rd l1 x11_1) < (l0.length : Int) := of_decide_eq_true (by first | (with_reducible assumption) | assumption)
                                      obtain ⟨ad158, e158, hx158_0, hx158_1, hx158_2⟩ := at_T36 HR0.out (rd l1 x11_1) p158 q158
                                      cases e158
                                      replace p158 := eq_true p158
                                      replace q158 := eq_true q158
                                      have p159 : 0 ≤ ((rd l1 (ji10)) : Int) := of_decide_eq_true (by first | (with_reducible assumption) | assumption)
                                      have q159 : (rd l1 (ji10)) < (l0.length : Int) := of_decide_eq_true (by first | (with_reducible assumption) | assumption)
                                      obtain ⟨ad159, e159, hx159_0, hx159_1, hx159_2⟩ := at_T36 HR0.out (rd l1 (ji10)) p159 q159
                                      obtain rfl : ad158 = ad159 := (by injection e159)
                                      replace p159 := eq_true p159
                                      replace q159 := eq_true q159
                                      have p160 : 0 ≤ ((rd l1 x11_1) : Int) := of_decide_eq_true (by first | (with_reducible assumption) | assumption)
                                      have q160 : (rd l1 x11_1) < (l0.length : Int) := of_decide_eq_true (by first | (with_reducible assumption) | assumption)
                                      obtain ⟨ad160, e160, hx160_0, hx160_1, hx160_2⟩ := at_T36 HR0.out (rd l1 x11_1) p160 q160
                                      obtain rfl : ad158 = ad160 := (by injection e160)
                                      replace p160 := eq_true p160
                                      replace q160 := eq_true q160
                                      go_wp2
                                      repeat (go_quiet (fail); try go_wp2)
                                      go_roundg kj5
                                      case measure => have := HK1.out; have := HJ5.out; omega
                                      case rel => exact ⟨(wrap64 (x5_1 + ((rd_T36 l0 (rd l1 x11_1)).f2))), (wrap64 (x11_1 + 1)), (by first | rfl | (simp; done) | (simp [*]; done)), (by first | rfl | (simp; done) | (simp [*]; done)), H', ⟨by have := HK1.out; have := HJ5.out; omega⟩, by repeat (first | exact Drawn0.refl _ | apply Drawn0.step)⟩
                                    · rw [if_neg c19] at H
                                      have c19b0 : (((rd_T36 l0 (rd l1 x11_1)).f1) == ((rd_T36 l0 (rd l1 (ji10))).f0)) = false := beq_eq_false_iff_ne.mpr c19
                                      have c19b1 : (((rd_T36 l0 (rd l1 x11_1)).f1) != ((rd_T36 l0 (rd l1 (ji10))).f0)) = true := bne_iff_ne.mpr c19
                                      obtain rfl := Option.some.inj H
                                      have p157 : 0 ≤ ((ji10) : Int) := of_decide_eq_true (by first | (with_reducible assumption) | assumption)
                                      have q157 : (ji10) < (l1.length : Int) := of_decide_eq_true (by first | (with_reducible assumption) | assumption)
                                      obtain ⟨ad157, e157, hx157_0⟩ := Kd.at_int HR1.out (ji10) p157 q157
                                      obtain rfl : ad156 = ad157 := (by injection e157)
                                      replace p157 := eq_true p157
                                      replace q157 := eq_true q157
                                      have p158 : 0 ≤ ((rd l1 x11_1) : Int) := of_decide_eq_true (by first | (with_reducible assumption) | assumption)
                                      have q158 : (rd l1 x11_1) < (l0.length : Int) := of_decide_eq_true (by first | (with_reducible assumption) | assumption)
                                      obtain ⟨ad158, e158, hx158_0, hx158_1, hx158_2⟩ := at_T36 HR0.out (rd l1 x11_1) p158 q158
                                      cases e158
                                      replace p158 := eq_true p158
                                      replace q158 := eq_true q158
                                      have p159 : 0 ≤ ((rd l1 (ji10)) : Int) := of_decide_eq_true (by first | (with_reducible assumption) | assumption)
                                      have q159 : (rd l1 (ji10)) < (l0.length : Int) := of_decide_eq_true (by first | (with_reducible assumption) | assumption)
                                      obtain ⟨ad159, e159, hx159_0, hx159_1, hx159_2⟩ := at_T36 HR0.out (rd l1 (ji10)) p159 q159
                                      obtain rfl : ad158 = ad159 := (by injection e159)
                                      replace p159 := eq_true p159
                                      replace q159 := eq_true q159
                                      go_wp2
                                      repeat (go_quiet (fail); try go_wp2)
                                      go_ret
                                      exact ⟨by first | rfl | (simp; done) | (simp only [← hji10] <;> (first | rfl | simp)) | (simp [*]; done), by repeat (first | exact Drawn0.refl _ | apply Drawn0.step)⟩
                                  · rw [if_neg c18] at H
                                    exact absurd H (by simp)
                                · rw [if_neg c17] at H
                                  exact absurd H (by simp)
                              · rw [if_neg c16] at H
                                exact absurd H (by simp)
                            · rw [if_neg c15] at H
                              exact absurd H (by simp)
                      · rw [if_neg c12] at H
                        exact absurd H (by simp)
                    · rw [if_neg c11] at H
                      exact absurd H (by simp)
          · rw [if_neg c5] at H
            exact absurd H (by simp)
        · rw [if_neg c4] at H
          exact absurd H (by simp)
      · rw [if_neg c3] at H
        have c3b0 : decide (x11_1 < (l1.length : Int)) = false := decide_eq_false c3
        clear c3
        by_cases c20 : (l1.length : Int) > 0
        · rw [if_pos c20] at H
          have c20b0 : decide (0 < (l1.length : Int)) = true := decide_eq_true c20
          have c20b1 : decide (0 < l1.length) = true := decide_eq_true (by omega)
          clear c20
          obtain rfl := Option.some.inj H
          go_wp2
          repeat (go_quiet (fail); try go_wp2)
          go_ret
          exact ⟨by first | rfl | (simp; done) | (simp [*]; done), by repeat (first | exact Drawn0.refl _ | apply Drawn0.step)⟩
        · rw [if_neg c20] at H
          have c20b0 : decide (0 < (l1.length : Int)) = false := decide_eq_false c20
          have c20b1 : decide (0 < l1.length) = false := decide_eq_false (by omega)
          clear c20
          obtain rfl := Option.some.inj H
          go_wp2
          repeat (go_quiet (fail); try go_wp2)
          go_ret
          exact ⟨by first | rfl | (simp; done) | (simp [*]; done), by repeat (first | exact Drawn0.refl _ | apply Drawn0.step)⟩

end Go.Proofs.Ytolfnlamknmeaaa.MDiffSystems
