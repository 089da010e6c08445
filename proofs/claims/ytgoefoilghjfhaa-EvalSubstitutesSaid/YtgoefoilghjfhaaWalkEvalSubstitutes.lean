/- EvalSubstitutes: what the law's own function does, step by step, at every system that the made problem may give. -/
import Derived.Test.YtgoefoilghjfhaaMEvalSubstitutesx
import Derived.Outline
import Derived.OneCell
namespace Go.Proofs.Ytgoefoilghjfhaa.MEvalSubstitutes
open Go.RowKit Go.Proofs.YtgoefoilghjfhaaW.PrintWords Go.Proofs.YtgoefoilghjfhaaW.PrintLast Go.Proofs.YtgoefoilghjfhaaW.PrintMore
attribute [local go_sem] max2_int min2_int max_two min_two max_three min_three max_four min_four
set_option linter.unusedVariables false
set_option linter.unusedSimpArgs false
set_option maxHeartbeats 8000000 in
set_option maxRecDepth 100000 in
theorem interleavelaw05_EvalSubstitutes.calls (w : World) (A0 : Option Addr) (c0 : Nat) (l0 : List Int) (A1 : Option Addr) (c1 : Nat) (vals : List Int) (hr0 : Kd.C (Kd.int .u8) w A0 l0.length l0) (hc0 : l0.length ≤ c0) (hu : ∀ x ∈ l0, 0 ≤ x ∧ x ≤ 255) (hr1 : Kd.C (Kd.int .i64) w A1 vals.length vals) (hc1 : vals.length ≤ c1)
    (H : ∀ names, interleavelaw05_variables.f = some names → ∀ (op n : Int) (nm : ByteArray) (l : List S36), interleavemade_loose_expr.Sm 5 l → ∃ (k : Nat) (a : Int) (ok : Bool) (q1 q2 : Int) (q3 : ByteArray) (q4 : List S36), eval_Expr.f k op n nm l names vals = some (a, ok) ∧ interleavelaw05_put.f k op n nm l names vals = some (q1, q2, q3, q4) ∧ eval_Expr.f k q1 q2 q3 q4 [] [] = some (a, ok) ∧ interleavelaw05_awake.f k = some true) :
    Calls Try.prog 9 #[.slice A0 l0.length c0, .slice A1 vals.length c1] w fun e w' => e = .returned (.bool true) ∧ Below w.heap.size w w' := by
  have hu36 := Try.underlying36
  have HR := Aside0.mk (And.intro hr0 hr1)
  have HU := Aside0.mk hu
  have HH := Aside0.mk H
  clear hr0 hr1 hu H
  go_enter Try.func9, Try.ntmps9
  by_cases hl : l0.length ≤ 300
  · have hl' : (300 < (l0.length : Int)) = False := eq_false (by omega)
    have hln : (300 < l0.length) = False := eq_false (by omega)
    go_wp2_with fail
    refine (interleavemade_Expr.calls w A0 c0 l0 HR.out.1 hc0 HU.out hl).mono ?_
    rintro e w1 ⟨op, n, nm, v, l, rfl, hV, hSm, hB1⟩
    obtain ⟨A, c, rfl⟩ := Kd.V_slice hV
    obtain ⟨names, hnames⟩ : ∃ r, interleavelaw05_variables.f = some r := ⟨_, rfl⟩
    obtain ⟨k, a, ok, q1, q2, q3, q4, h1, h2, h3, h4⟩ := HH.out names hnames op n nm l hSm
    have HV1 := Aside0.mk hV
    have HB1 := Aside0.mk hB1
    have HN := Aside0.mk hnames
    have HE1 := Aside0.mk h1
    have HE2 := Aside0.mk h2
    have HE3 := Aside0.mk h3
    have HE4 := Aside0.mk h4
    clear hV hSm hB1 hnames h1 h2 h3 h4 HH
    go_wp2_with fail
    refine (interleavelaw05_variables.calls names w1 HN.out).mono ?_
    rintro e w2 ⟨v0, rfl, hR2, hB2⟩
    obtain ⟨A2, c2, rfl⟩ := Kd.R_slice hR2
    have hb3 : (w2.alloc (.cells #[.int .i64 op, .int .i64 n, .string nm, .slice A l.length c] 36)).heap[w2.heap.size]? = some (.cells #[.int .i64 op, .int .i64 n, .string nm, .slice A l.length c] 36 (0, 0)) := blk_new _ _
    have HB3 := Aside0.mk hb3
    have HV3 := Aside0.mk (Kd.V_alloc (Kd.V_below HV1.out hB2) (.cells #[.int .i64 op, .int .i64 n, .string nm, .slice A l.length c] 36))
    have HBW := Aside0.mk (below_alloc (below_step HB1.out hB2) (.cells #[.int .i64 op, .int .i64 n, .string nm, .slice A l.length c] 36))
    have HRN := Aside0.mk (Kd.R_reads' (Kd.R_alloc hR2 (.cells #[.int .i64 op, .int .i64 n, .string nm, .slice A l.length c] 36))).2
    have y0 : (w2.alloc (.cells #[.int .i64 op, .int .i64 n, .string nm, .slice A l.length c] 36)).cell? ⟨w2.heap.size, 0, none⟩ = some (.int .i64 op) := (blk_cell hb3 0).trans rfl
    have y1 : (w2.alloc (.cells #[.int .i64 op, .int .i64 n, .string nm, .slice A l.length c] 36)).cell? ⟨w2.heap.size, 1, none⟩ = some (.int .i64 n) := (blk_cell hb3 1).trans rfl
    have y2 : (w2.alloc (.cells #[.int .i64 op, .int .i64 n, .string nm, .slice A l.length c] 36)).cell? ⟨w2.heap.size, 2, none⟩ = some (.string nm) := (blk_cell hb3 2).trans rfl
    have y3 : (w2.alloc (.cells #[.int .i64 op, .int .i64 n, .string nm, .slice A l.length c] 36)).cell? ⟨w2.heap.size, 3, none⟩ = some (.slice A l.length c) := (blk_cell hb3 3).trans rfl
    clear hb3 hR2 hB2 HB1 HV1
    go_wp2_with fail
    obtain ⟨b3, hb3⟩ : ∃ b, b = w2.heap.size := ⟨_, rfl⟩
    obtain ⟨w3, hw3⟩ : ∃ w3, w3 = w2.alloc (.cells #[.int .i64 op, .int .i64 n, .string nm, .slice A l.length c] 36) := ⟨_, rfl⟩
    rw [← hb3] at HB3 ⊢
    rw [← hw3] at HB3 HV3 HBW HRN ⊢
    clear hw3 hb3 y0 y1 y2 y3
    refine (eval_Expr.calls k op n nm A c l A2 c2 names A1 c1 vals a ok w3 (Kd.V_reads' HV3.out).2.2 (Kd.V_reads' HV3.out).2.1 HRN.out.2 HRN.out.1 (Kd.C_below HR.out.2 HBW.out) hc1 HE1.out).mono ?_
    rintro e w4 ⟨rfl, hB4⟩
    have HB4 := Aside0.mk (blk_below HB3.out hB4)
    have HV4 := Aside0.mk (Kd.V_below HV3.out hB4)
    have HBW4 := Aside0.mk (below_step HBW.out hB4)
    have HRN4 := Aside0.mk (Kd.C_below HRN.out.2 hB4)
    have hc2 := HRN.out.1
    clear hB4 HB3 HV3 HBW HRN
    have z0 : (w4).cell? ⟨b3, 0, none⟩ = some (.int .i64 op) := (blk_cell HB4.out 0).trans rfl
    have z1 : (w4).cell? ⟨b3, 1, none⟩ = some (.int .i64 n) := (blk_cell HB4.out 1).trans rfl
    have z2 : (w4).cell? ⟨b3, 2, none⟩ = some (.string nm) := (blk_cell HB4.out 2).trans rfl
    have z3 : (w4).cell? ⟨b3, 3, none⟩ = some (.slice A l.length c) := (blk_cell HB4.out 3).trans rfl
    go_wp2_with fail
    refine (interleavelaw05_put.calls k op n nm _ A c l A2 c2 names A1 c1 vals q1 q2 q3 q4 w4 HV4.out HRN4.out hc2 (Kd.C_below HR.out.2 HBW4.out) hc1 HE2.out).mono ?_
    rintro e w5 ⟨v5, rfl, hV5, hB5⟩
    obtain ⟨A5, c5, rfl⟩ := Kd.V_slice hV5
    have HV5 := Aside0.mk hV5
    have HBW5 := Aside0.mk (below_step HBW4.out hB5)
    clear hV5 hB5 HB4 HV4 HRN4 z0 z1 z2 z3
    go_wp2_with fail
    refine (eval_Expr.calls k q1 q2 q3 A5 c5 q4 none 0 [] none 0 [] a ok w5 (Kd.V_reads' HV5.out).2.2 (Kd.V_reads' HV5.out).2.1 (Kd.C_nil _ _) (Nat.le_refl _) (Kd.C_nil _ _) (Nat.le_refl _) HE3.out).mono ?_
    rintro e w6 ⟨rfl, hB6⟩
    have HBW6 := Aside0.mk (below_step HBW5.out hB6)
    clear hB6
    go_wp2_with fail
    refine (interleavelaw05_awake.calls k true w6 HE4.out).mono ?_
    rintro e w7 ⟨rfl, ⟨⟨kq, rfl⟩⟩⟩
    go_wp2
    go_ret
    exact ⟨rfl, pw_below_drewN HBW6.out _⟩
  · have hl' : (300 < (l0.length : Int)) = True := eq_true (by omega)
    have hln : (300 < l0.length) = True := eq_true (by omega)
    go_wp2
    go_ret
    exact ⟨rfl, Below.refl _ _⟩


end Go.Proofs.Ytgoefoilghjfhaa.MEvalSubstitutes
