-- PRINTED BY print.sh 35421559b90ae4d0a3588c463048766b98c2df88dd9212a6774a882060cdf62d: not written by this session
import Derived.Test.YtgoefoilghjfhaaPEvalOrdersx0
import Derived.Test.YtgoefoilghjfhaaPEvalOrdersx1
namespace Go.Proofs.Ytgoefoilghjfhaa.PEvalOrders
open Go.RowKit Go.Proofs.YtgoefoilghjfhaaW.PrintWords Go.Proofs.YtgoefoilghjfhaaW.PrintLast Go.Proofs.YtgoefoilghjfhaaW.PrintMore
attribute [local go_sem] max2_int min2_int max_two min_two max_three min_three max_four min_four   -- for this text's walks alone
set_option linter.unusedVariables false
set_option linter.unusedSimpArgs false

/-! ### interleavelaw05_EvalOrders: function 5 -/
mutual
def interleavelaw05_EvalOrders.l0 : Nat → Int → Int → List Int → List Int → Int → Option (Bool)
  | 0, _, _, _, _, _ => none
  | k + 1, x0, x1, x5, x6, x7 => if x7 < (x5.length : Int) then (if 0 ≤ x7 then ((eval_Binary.f k (rd x5 x7) x0 x1).bind fun bt120 => (if bt120.2 = true then (if bt120.1 = 0 then (if x7 < (x6.length : Int) then (interleavelaw05_EvalOrders.l0 k x0 x1 x5 (x6.set (x7 : Int).toNat bt120.1) (wrap64 (x7 + 1))) else (none)) else (if bt120.1 = 1 then (if x7 < (x6.length : Int) then (interleavelaw05_EvalOrders.l0 k x0 x1 x5 (x6.set (x7 : Int).toNat bt120.1) (wrap64 (x7 + 1))) else (none)) else (some false))) else (some false))) else (none)) else (if 0 < (x6.length : Int) then (if 1 < (x6.length : Int) then (if 2 < (x6.length : Int) then (if (wrap64 ((wrap64 ((rd x6 0) + (rd x6 1))) + (rd x6 2))) = 1 then (if 3 < (x6.length : Int) then (if (rd x6 3) = (wrap64 (1 - (rd x6 0))) then (if 4 < (x6.length : Int) then (if (rd x6 4) = (wrap64 (1 - (rd x6 1))) then (if 5 < (x6.length : Int) then (interleavelaw05_EvalOrders.j1 k x0 x1 x6 ((rd x6 5) != (wrap64 (1 - (rd x6 2))))) else (none)) else (interleavelaw05_EvalOrders.j1 k x0 x1 x6 true)) else (none)) else (interleavelaw05_EvalOrders.j1 k x0 x1 x6 true)) else (none)) else (interleavelaw05_EvalOrders.j1 k x0 x1 x6 true)) else (none)) else (none)) else (none))
def interleavelaw05_EvalOrders.j1 : Nat → Int → Int → List Int → Bool → Option (Bool)
  | 0, _, _, _, _ => none
  | k + 1, x0, x1, x6, x89 => if x89 = true then (some false) else ((eval_Unary.f 5 x0).bind fun bt133 => ((eval_Unary.f 5 x1).bind fun bt135 => (if 6 < (x6.length : Int) then (if (rd x6 6) = (wrap64 ((wrap64 (1 - bt133.1)) * (wrap64 (1 - bt135.1)))) then (if 7 < (x6.length : Int) then (some ((rd x6 7) == (wrap64 (1 - (wrap64 (bt133.1 * bt135.1)))))) else (none)) else (some false)) else (none))))
end
def interleavelaw05_EvalOrders.f (k : Nat) (a0 : Int) (a1 : Int) : Option (Bool) := (some (([13, 11, 15, 16, 12, 14, 17, 18] : List Int) : List Int)).bind fun y113 => (if 0 ≤ (y113.length : Int) then (if ((y113.length : Int) : Int).toNat ≤ 35184372088832 then (interleavelaw05_EvalOrders.l0 k a0 a1 y113 (List.replicate ((y113.length : Int) : Int).toNat 0) 0) else (none)) else (none))
theorem interleavelaw05_EvalOrders.mono_l : ∀ k, (∀ y0 y1 y2 y3 y4, LeO (interleavelaw05_EvalOrders.l0 k y0 y1 y2 y3 y4) (interleavelaw05_EvalOrders.l0 (k + 1) y0 y1 y2 y3 y4)) ∧ (∀ y0 y1 y2 y3, LeO (interleavelaw05_EvalOrders.j1 k y0 y1 y2 y3) (interleavelaw05_EvalOrders.j1 (k + 1) y0 y1 y2 y3))
  | 0 => ⟨fun _ _ _ _ _ r h => by simp [interleavelaw05_EvalOrders.l0] at h, fun _ _ _ _ r h => by simp [interleavelaw05_EvalOrders.j1] at h⟩
  | k + 1 => by
    obtain ⟨ih0, ih1⟩ := interleavelaw05_EvalOrders.mono_l k
    refine ⟨?_, ?_⟩
    · intro y0 y1 y2 y3 y4
      unfold interleavelaw05_EvalOrders.l0
      repeat' first
      | (with_reducible exact ih0 _ _ _ _ _)
      | (with_reducible exact ih1 _ _ _ _)
      | (with_reducible exact eval_Binary.mono _ _ _ _)
      | (with_reducible exact LeO.refl _)
      | (with_reducible exact LeO.none _)
      | (with_reducible refine LeO.ite ?_ ?_)
      | (with_reducible refine LeO.bind ?_ (fun _ => ?_))
      | exact ih0 _ _ _ _ _
      | exact ih1 _ _ _ _
      | exact eval_Binary.mono _ _ _ _
      | exact LeO.none _
      | refine LeO.ite ?_ ?_
      | refine LeO.bind ?_ (fun _ => ?_)
    · intro y0 y1 y2 y3
      unfold interleavelaw05_EvalOrders.j1
      repeat' first
      | (with_reducible exact ih0 _ _ _ _ _)
      | (with_reducible exact ih1 _ _ _ _)
      | (with_reducible exact eval_Binary.mono _ _ _ _)
      | (with_reducible exact LeO.refl _)
      | (with_reducible exact LeO.none _)
      | (with_reducible refine LeO.ite ?_ ?_)
      | (with_reducible refine LeO.bind ?_ (fun _ => ?_))
      | exact ih0 _ _ _ _ _
      | exact ih1 _ _ _ _
      | exact eval_Binary.mono _ _ _ _
      | exact LeO.none _
      | refine LeO.ite ?_ ?_
      | refine LeO.bind ?_ (fun _ => ?_)
theorem interleavelaw05_EvalOrders.mono : ∀ a0 a1 k, LeO (interleavelaw05_EvalOrders.f k a0 a1) (interleavelaw05_EvalOrders.f (k + 1) a0 a1) := by
  intro a0 a1 k
  obtain ⟨ih0, ih1⟩ := interleavelaw05_EvalOrders.mono_l k
  unfold interleavelaw05_EvalOrders.f
  repeat' first
      | (with_reducible exact ih0 _ _ _ _ _)
      | (with_reducible exact ih1 _ _ _ _)
      | (with_reducible exact eval_Binary.mono _ _ _ _)
      | (with_reducible exact LeO.refl _)
      | (with_reducible exact LeO.none _)
      | (with_reducible refine LeO.ite ?_ ?_)
      | (with_reducible refine LeO.bind ?_ (fun _ => ?_))
      | exact ih0 _ _ _ _ _
      | exact ih1 _ _ _ _
      | exact eval_Binary.mono _ _ _ _
      | exact LeO.none _
      | refine LeO.ite ?_ ?_
      | refine LeO.bind ?_ (fun _ => ?_)
set_option maxHeartbeats 8000000 in
set_option maxRecDepth 100000 in
theorem interleavelaw05_EvalOrders.calls (k : Nat) (a0 : Int) (a1 : Int) (r : Bool) (w : World) (h : interleavelaw05_EvalOrders.f k a0 a1 = some r) :
    Calls Try.prog 5 #[.int .i64 a0, .int .i64 a1] w fun e w' => e = .returned (.bool r) ∧ Below w.heap.size w w' := by
  have HB := Aside0.mk (Below.refl w.heap.size w)
  have H : ((some (([13, 11, 15, 16, 12, 14, 17, 18] : List Int) : List Int)).bind fun y113 => (if 0 ≤ (y113.length : Int) then (if ((y113.length : Int) : Int).toNat ≤ 35184372088832 then (interleavelaw05_EvalOrders.l0 k a0 a1 y113 (List.replicate ((y113.length : Int) : Int).toNat 0) 0) else (none)) else (none))) = some r := h
  clear h
  obtain ⟨y113, hy113⟩ : ∃ y_ : List Int, y_ = (([13, 11, 15, 16, 12, 14, 17, 18] : List Int)) := ⟨_, rfl⟩
  replace H : (if 0 ≤ (y113.length : Int) then (if ((y113.length : Int) : Int).toNat ≤ 35184372088832 then (interleavelaw05_EvalOrders.l0 k a0 a1 y113 (List.replicate ((y113.length : Int) : Int).toNat 0) 0) else (none)) else (none)) = some r := by first | (rw [hy113]; with_reducible exact H) | (have H2_ := (Option.bind_some _ _).symm.trans H; rw [hy113]; with_reducible exact H2_) | (have H2_ := (Option.bind_some _ _).symm.trans H; with_reducible exact H2_) | with_reducible exact H | (rw [hy113]; exact H) | exact H
  have Ny113 := Aside0.mk hy113
  clear hy113
  by_cases c3 : 0 ≤ (y113.length : Int)
  · rw [if_pos c3] at H
    have c3b0 := eq_true c3
    have c3b1 : decide (0 ≤ (y113.length : Int)) = true := decide_eq_true c3
    clear c3
    by_cases c4 : ((y113.length : Int) : Int).toNat ≤ 35184372088832
    · rw [if_pos c4] at H
      have c4b0 := eq_true c4
      have c4b1 : decide (((y113.length : Int) : Int).toNat ≤ 35184372088832) = true := decide_eq_true c4
      clear c4
      obtain ⟨y116, hy116⟩ : ∃ y_ : List Int, y_ = (List.replicate ((y113.length : Int) : Int).toNat 0) := ⟨_, rfl⟩
      replace H : (interleavelaw05_EvalOrders.l0 k a0 a1 y113 y116 0) = some r := by first | (rw [hy116]; with_reducible exact H) | (have H2_ := (Option.bind_some _ _).symm.trans H; rw [hy116]; with_reducible exact H2_) | (have H2_ := (Option.bind_some _ _).symm.trans H; with_reducible exact H2_) | with_reducible exact H | (rw [hy116]; exact H) | exact H
      have Ny116 := Aside0.mk hy116
      clear hy116
      have H' := Aside0.mk H
      clear H
      go_enter Try.func5, Try.ntmps5
      go_wp2_with (first | ((with_reducible refine gate_dst (N := 14) rfl ?_); refine Kd.R_lit (Kd.int .i64) _ 3 ?hg (N := 14) ?hd (xs := ([13, 11, 15, 16, 12, 14, 17, 18] : List Int)) (inner := [.int .i64 13, .int .i64 11, .int .i64 15, .int .i64 16, .int .i64 12, .int .i64 14, .int .i64 17, .int .i64 18]) (ok := fun _ => True) (okp := fun _ => True) ?hr ?hp (fun _ hk => hk) trivial (Below.refl _ _) (Nat.le_refl _) (by simp) ?_; (case hd => rfl); (case hg => rfl); (case hr => first | (go_simp; done) | (go_simp; rfl)); (case hp => exact (Reps.one (show Kd.M (Kd.int .i64) _ _ _ 13 [.int .i64 13] from rfl) (Reps.one (show Kd.M (Kd.int .i64) _ _ _ 11 [.int .i64 11] from rfl) (Reps.one (show Kd.M (Kd.int .i64) _ _ _ 15 [.int .i64 15] from rfl) (Reps.one (show Kd.M (Kd.int .i64) _ _ _ 16 [.int .i64 16] from rfl) (Reps.one (show Kd.M (Kd.int .i64) _ _ _ 12 [.int .i64 12] from rfl) (Reps.one (show Kd.M (Kd.int .i64) _ _ _ 14 [.int .i64 14] from rfl) (Reps.one (show Kd.M (Kd.int .i64) _ _ _ 17 [.int .i64 17] from rfl) (Reps.one (show Kd.M (Kd.int .i64) _ _ _ 18 [.int .i64 18] from rfl) (Reps.none _ _)))))))))); intro v114 w5 ho6 hb hg_ hnew_; clear hg_ hnew_; (first | rw [← Ny113.out] at ho6 | (simp only [Int.reduceToNat] at ho6; rw [← Ny113.out] at ho6)); have n0_ := Aside0.mk (Kd.R_lower ho6 (below_size (by repeat (first | (with_reducible first | exact HB.out | apply below_alloc | apply pw_below_drewN | apply below_drew1) | exact HB.out)))); have n1_ := Aside0.mk (below_step (by repeat (first | (with_reducible first | exact HB.out | apply below_alloc | apply pw_below_drewN | apply below_drew1) | exact HB.out)) hb); clear HB; have HO115 := n0_; have HB := n1_; clear n0_ n1_; clear hb ho6; obtain ⟨Ao7, co7, eo7⟩ := Kd.R_slice HO115.out; subst eo7) | ((with_reducible refine gate_dst (N := 17) rfl ?_); refine Kd.R_make (Kd.int .i64) _ 2 rfl (N := 17) rfl 27 _ _ rfl (y113.length : Int) rfl rfl Try.underlying27 (.int .i64 0) 8 info2 rfl (by decide) (by omega) 0 (ok := fun _ => True) (okp := fun _ => True) rfl (fun _ hk => hk) trivial (of_decide_eq_true (by first | (with_reducible assumption) | assumption)) (Nat.le_trans (Nat.mul_le_mul_right _ (of_decide_eq_true (by first | (with_reducible assumption) | assumption) : (y113.length : Int).toNat ≤ 35184372088832)) (by omega)) (Below.refl _ _) (Nat.le_refl _) ?_; intro v117 w8 ho9 hb hg_ hnew_; clear hg_ hnew_; (first | rw [← Ny116.out] at ho9 | (simp only [Int.reduceToNat] at ho9; rw [← Ny116.out] at ho9)); have n0_ := Aside0.mk (Kd.R_below (by (with_reducible repeat (first | apply Kd.R_alloc | apply Kd.R_drewN | apply Kd.R_drew)); exact HO115.out) hb); have n1_ := Aside0.mk (Kd.R_lower ho9 (below_size (by repeat (first | (with_reducible first | exact HB.out | apply below_alloc | apply pw_below_drewN | apply below_drew1) | exact HB.out)))); have n2_ := Aside0.mk (below_step (by repeat (first | (with_reducible first | exact HB.out | apply below_alloc | apply pw_below_drewN | apply below_drew1) | exact HB.out)) hb); clear HO115; clear HB; have HO115 := n0_; have HO118 := n1_; have HB := n2_; clear n0_ n1_ n2_; clear hb ho9))
      repeat (go_quiet (first | ((with_reducible refine gate_dst (N := 14) rfl ?_); refine Kd.R_lit (Kd.int .i64) _ 3 ?hg (N := 14) ?hd (xs := ([13, 11, 15, 16, 12, 14, 17, 18] : List Int)) (inner := [.int .i64 13, .int .i64 11, .int .i64 15, .int .i64 16, .int .i64 12, .int .i64 14, .int .i64 17, .int .i64 18]) (ok := fun _ => True) (okp := fun _ => True) ?hr ?hp (fun _ hk => hk) trivial (Below.refl _ _) (Nat.le_refl _) (by simp) ?_; (case hd => rfl); (case hg => rfl); (case hr => first | (go_simp; done) | (go_simp; rfl)); (case hp => exact (Reps.one (show Kd.M (Kd.int .i64) _ _ _ 13 [.int .i64 13] from rfl) (Reps.one (show Kd.M (Kd.int .i64) _ _ _ 11 [.int .i64 11] from rfl) (Reps.one (show Kd.M (Kd.int .i64) _ _ _ 15 [.int .i64 15] from rfl) (Reps.one (show Kd.M (Kd.int .i64) _ _ _ 16 [.int .i64 16] from rfl) (Reps.one (show Kd.M (Kd.int .i64) _ _ _ 12 [.int .i64 12] from rfl) (Reps.one (show Kd.M (Kd.int .i64) _ _ _ 14 [.int .i64 14] from rfl) (Reps.one (show Kd.M (Kd.int .i64) _ _ _ 17 [.int .i64 17] from rfl) (Reps.one (show Kd.M (Kd.int .i64) _ _ _ 18 [.int .i64 18] from rfl) (Reps.none _ _)))))))))); intro v114 w5 ho6 hb hg_ hnew_; clear hg_ hnew_; (first | rw [← Ny113.out] at ho6 | (simp only [Int.reduceToNat] at ho6; rw [← Ny113.out] at ho6)); have n0_ := Aside0.mk (Kd.R_lower ho6 (below_size (by repeat (first | (with_reducible first | exact HB.out | apply below_alloc | apply pw_below_drewN | apply below_drew1) | exact HB.out)))); have n1_ := Aside0.mk (below_step (by repeat (first | (with_reducible first | exact HB.out | apply below_alloc | apply pw_below_drewN | apply below_drew1) | exact HB.out)) hb); clear HB; have HO115 := n0_; have HB := n1_; clear n0_ n1_; clear hb ho6; obtain ⟨Ao7, co7, eo7⟩ := Kd.R_slice HO115.out; subst eo7) | ((with_reducible refine gate_dst (N := 17) rfl ?_); refine Kd.R_make (Kd.int .i64) _ 2 rfl (N := 17) rfl 27 _ _ rfl (y113.length : Int) rfl rfl Try.underlying27 (.int .i64 0) 8 info2 rfl (by decide) (by omega) 0 (ok := fun _ => True) (okp := fun _ => True) rfl (fun _ hk => hk) trivial (of_decide_eq_true (by first | (with_reducible assumption) | assumption)) (Nat.le_trans (Nat.mul_le_mul_right _ (of_decide_eq_true (by first | (with_reducible assumption) | assumption) : (y113.length : Int).toNat ≤ 35184372088832)) (by omega)) (Below.refl _ _) (Nat.le_refl _) ?_; intro v117 w8 ho9 hb hg_ hnew_; clear hg_ hnew_; (first | rw [← Ny116.out] at ho9 | (simp only [Int.reduceToNat] at ho9; rw [← Ny116.out] at ho9)); have n0_ := Aside0.mk (Kd.R_below (by (with_reducible repeat (first | apply Kd.R_alloc | apply Kd.R_drewN | apply Kd.R_drew)); exact HO115.out) hb); have n1_ := Aside0.mk (Kd.R_lower ho9 (below_size (by repeat (first | (with_reducible first | exact HB.out | apply below_alloc | apply pw_below_drewN | apply below_drew1) | exact HB.out)))); have n2_ := Aside0.mk (below_step (by repeat (first | (with_reducible first | exact HB.out | apply below_alloc | apply pw_below_drewN | apply below_drew1) | exact HB.out)) hb); clear HO115; clear HB; have HO115 := n0_; have HO118 := n1_; have HB := n2_; clear n0_ n1_ n2_; clear hb ho9)); try go_wp2_with (first | ((with_reducible refine gate_dst (N := 14) rfl ?_); refine Kd.R_lit (Kd.int .i64) _ 3 ?hg (N := 14) ?hd (xs := ([13, 11, 15, 16, 12, 14, 17, 18] : List Int)) (inner := [.int .i64 13, .int .i64 11, .int .i64 15, .int .i64 16, .int .i64 12, .int .i64 14, .int .i64 17, .int .i64 18]) (ok := fun _ => True) (okp := fun _ => True) ?hr ?hp (fun _ hk => hk) trivial (Below.refl _ _) (Nat.le_refl _) (by simp) ?_; (case hd => rfl); (case hg => rfl); (case hr => first | (go_simp; done) | (go_simp; rfl)); (case hp => exact (Reps.one (show Kd.M (Kd.int .i64) _ _ _ 13 [.int .i64 13] from rfl) (Reps.one (show Kd.M (Kd.int .i64) _ _ _ 11 [.int .i64 11] from rfl) (Reps.one (show Kd.M (Kd.int .i64) _ _ _ 15 [.int .i64 15] from rfl) (Reps.one (show Kd.M (Kd.int .i64) _ _ _ 16 [.int .i64 16] from rfl) (Reps.one (show Kd.M (Kd.int .i64) _ _ _ 12 [.int .i64 12] from rfl) (Reps.one (show Kd.M (Kd.int .i64) _ _ _ 14 [.int .i64 14] from rfl) (Reps.one (show Kd.M (Kd.int .i64) _ _ _ 17 [.int .i64 17] from rfl) (Reps.one (show Kd.M (Kd.int .i64) _ _ _ 18 [.int .i64 18] from rfl) (Reps.none _ _)))))))))); intro v114 w5 ho6 hb hg_ hnew_; clear hg_ hnew_; (first | rw [← Ny113.out] at ho6 | (simp only [Int.reduceToNat] at ho6; rw [← Ny113.out] at ho6)); have n0_ := Aside0.mk (Kd.R_lower ho6 (below_size (by repeat (first | (with_reducible first | exact HB.out | apply below_alloc | apply pw_below_drewN | apply below_drew1) | exact HB.out)))); have n1_ := Aside0.mk (below_step (by repeat (first | (with_reducible first | exact HB.out | apply below_alloc | apply pw_below_drewN | apply below_drew1) | exact HB.out)) hb); clear HB; have HO115 := n0_; have HB := n1_; clear n0_ n1_; clear hb ho6; obtain ⟨Ao7, co7, eo7⟩ := Kd.R_slice HO115.out; subst eo7) | ((with_reducible refine gate_dst (N := 17) rfl ?_); refine Kd.R_make (Kd.int .i64) _ 2 rfl (N := 17) rfl 27 _ _ rfl (y113.length : Int) rfl rfl Try.underlying27 (.int .i64 0) 8 info2 rfl (by decide) (by omega) 0 (ok := fun _ => True) (okp := fun _ => True) rfl (fun _ hk => hk) trivial (of_decide_eq_true (by first | (with_reducible assumption) | assumption)) (Nat.le_trans (Nat.mul_le_mul_right _ (of_decide_eq_true (by first | (with_reducible assumption) | assumption) : (y113.length : Int).toNat ≤ 35184372088832)) (by omega)) (Below.refl _ _) (Nat.le_refl _) ?_; intro v117 w8 ho9 hb hg_ hnew_; clear hg_ hnew_; (first | rw [← Ny116.out] at ho9 | (simp only [Int.reduceToNat] at ho9; rw [← Ny116.out] at ho9)); have n0_ := Aside0.mk (Kd.R_below (by (with_reducible repeat (first | apply Kd.R_alloc | apply Kd.R_drewN | apply Kd.R_drew)); exact HO115.out) hb); have n1_ := Aside0.mk (Kd.R_lower ho9 (below_size (by repeat (first | (with_reducible first | exact HB.out | apply below_alloc | apply pw_below_drewN | apply below_drew1) | exact HB.out)))); have n2_ := Aside0.mk (below_step (by repeat (first | (with_reducible first | exact HB.out | apply below_alloc | apply pw_below_drewN | apply below_drew1) | exact HB.out)) hb); clear HO115; clear HB; have HO115 := n0_; have HO118 := n1_; have HB := n2_; clear n0_ n1_ n2_; clear hb ho9)))
      go_loopg [7] k (fun kq v7 w' => ∃ (x6_1 : List Int) (x7_1 : Int), v7 = .int .i64 x7_1 ∧ Aside0 (interleavelaw05_EvalOrders.l0 kq a0 a1 y113 x6_1 x7_1 = some r) ∧ Aside0 (kq ≤ k) ∧ Aside0 (Kd.R (Kd.int .i64) 3 w' w.heap.size (fun _ => True) (.slice Ao7 y113.length co7) y113) ∧ Aside0 (Kd.R (Kd.int .i64) 2 w' w.heap.size (fun _ => True) v117 x6_1) ∧ Aside0 (Below w.heap.size w w'))
      case atStart => exact ⟨(y116), (0), (by first | rfl | (simp; done) | (simp [*]; done)), H', ⟨Nat.le_refl _⟩, ⟨by (with_reducible repeat (first | apply Kd.R_alloc | apply Kd.R_drewN | apply Kd.R_drew)); exact HO115.out⟩, ⟨by (with_reducible repeat (first | apply Kd.R_alloc | apply Kd.R_drewN | apply Kd.R_drew)); exact HO118.out⟩, ⟨by repeat (first | (with_reducible first | exact HB.out | apply below_alloc | apply pw_below_drewN | apply below_drew1) | exact HB.out)⟩⟩
      case round =>
        clear H'
        try clear p2
        try clear c3
        try clear c3b0
        try clear c3b1
        try clear c4
        try clear c4b0
        try clear c4b1
        try clear c5
        obtain ⟨x6_1, x7_1, rfl, HA, HK1, HO_5, HO_6, HB⟩ := hrel
        cases gk with
        | zero => exact absurd HA.out (by simp [interleavelaw05_EvalOrders.l0])
        | succ k1 =>
          have H := HA.out
          clear HA
          simp only [interleavelaw05_EvalOrders.l0] at H
          by_cases c10 : x7_1 < (y113.length : Int)
          · rw [if_pos c10] at H
            have c10b0 : decide (x7_1 < (y113.length : Int)) = true := decide_eq_true c10
            clear c10
            by_cases c11 : 0 ≤ x7_1
            · rw [if_pos c11] at H
              have c11b0 : decide (0 ≤ x7_1) = true := decide_eq_true c11
              clear c11
              replace H := Option.bind_eq_some_iff.mp H
              obtain ⟨⟨t120, t121⟩, A120, H⟩ := H
              replace H : (if t121 = true then (if t120 = 0 then (if x7_1 < (x6_1.length : Int) then (interleavelaw05_EvalOrders.l0 k1 a0 a1 y113 (x6_1.set (x7_1 : Int).toNat t120) (wrap64 (x7_1 + 1))) else (none)) else (if t120 = 1 then (if x7_1 < (x6_1.length : Int) then (interleavelaw05_EvalOrders.l0 k1 a0 a1 y113 (x6_1.set (x7_1 : Int).toNat t120) (wrap64 (x7_1 + 1))) else (none)) else (some false))) else (some false)) = some r := H
              have A12 := Aside0.mk A120
              clear A120
              by_cases c13 : t121 = true
              · subst c13
                have H1 : (if t120 = 0 then (if x7_1 < (x6_1.length : Int) then (interleavelaw05_EvalOrders.l0 k1 a0 a1 y113 (x6_1.set (x7_1 : Int).toNat t120) (wrap64 (x7_1 + 1))) else (none)) else (if t120 = 1 then (if x7_1 < (x6_1.length : Int) then (interleavelaw05_EvalOrders.l0 k1 a0 a1 y113 (x6_1.set (x7_1 : Int).toNat t120) (wrap64 (x7_1 + 1))) else (none)) else (some false))) = some r := by rw [if_pos rfl] at H; exact H
                clear H
                have H := H1
                clear H1
                by_cases c14 : t120 = 0
                · rw [if_pos c14] at H
                  have c14b0 : (t120 == 0) = true := beq_iff_eq.mpr c14
                  have c14b1 : (t120 != 0) = false := bne_eq_false_iff_eq.mpr c14
                  clear c14
                  by_cases c15 : x7_1 < (x6_1.length : Int)
                  · rw [if_pos c15] at H
                    have c15b0 : decide (x7_1 < (x6_1.length : Int)) = true := decide_eq_true c15
                    clear c15
                    obtain ⟨y122, hy122⟩ : ∃ y_ : List Int, y_ = (x6_1.set (x7_1 : Int).toNat t120) := ⟨_, rfl⟩
                    replace H : (interleavelaw05_EvalOrders.l0 k1 a0 a1 y113 y122 (wrap64 (x7_1 + 1))) = some r := by first | (rw [hy122]; with_reducible exact H) | (have H2_ := (Option.bind_some _ _).symm.trans H; rw [hy122]; with_reducible exact H2_) | (have H2_ := (Option.bind_some _ _).symm.trans H; with_reducible exact H2_) | with_reducible exact H | (rw [hy122]; exact H) | exact H
                    have Ny122 := Aside0.mk hy122
                    clear hy122
                    have H' := Aside0.mk H
                    clear H
                    have p119 : 0 ≤ (x7_1 : Int) := of_decide_eq_true (by first | (with_reducible assumption) | assumption)
                    have q119 : x7_1 < (y113.length : Int) := of_decide_eq_true (by first | (with_reducible assumption) | assumption)
                    obtain ⟨ad119, e119, hx119_0⟩ := Kd.at_int (Kd.R_reads' HO_5.out).2.2 x7_1 p119 q119
                    cases e119
                    replace p119 := eq_true p119
                    replace q119 := eq_true q119
                    go_wp2_with (first | (go_at_call 10; (with_reducible refine (eval_Binary.calls k1 (rd y113 x7_1) a0 a1 t120 true _ A12.out).mono ?_); rintro e w' ⟨rfl, ⟨nd, rfl⟩⟩; (try first | exact ⟨rfl, _, World.drewN_drewN _ _ _⟩ | exact ⟨rfl, _, Eq.trans (World.drewN_drewN _ _ _) (congrArg (World.drewN _) (Nat.add_assoc _ _ _))⟩); have p16 : 0 ≤ (x7_1 : Int) := of_decide_eq_true (by first | (with_reducible assumption) | assumption); have q16 : (x7_1 : Int) < ((x6_1.length : Int) : Int) := of_decide_eq_true (by first | (with_reducible assumption) | assumption); obtain ⟨go16, co16, eo16, gb16, gl16, cl16, HG16⟩ := Kd.R_form HO_6.out (by omega); (first | cases eo16 | (injection eo16 with ea_ en_ ec_; (first | subst ea_ | (injection ea_ with ea_; subst ea_)); subst ec_; clear en_)); have GB16 := Aside0.mk gb16; have GG16 := Aside0.mk HG16; clear gb16 gl16 HG16; obtain ⟨hx16_0, hf16_0⟩ := Kd.R_celln 0 HO_6.out (x7_1 : Int) p16 q16; replace p16 := eq_true p16; replace q16 := eq_true q16; obtain ⟨hy17_, hz17_⟩ := Kd.R_celln 0 HO_6.out (x7_1 : Int) (of_decide_eq_true (by first | (with_reducible assumption) | assumption)) (of_decide_eq_true (by first | (with_reducible assumption) | assumption)); have HP17 := Kd.R_putg HO_6.out (x7_1 : Int) t120) | ((with_reducible refine gate_store (t := 2) (p := 47) rfl ?_); (try (rw [drewN_self wr]; generalize hq_ : World.drewN wr _ = wr; have n0_ := Aside0.mk (Kd.R_at hq_ HO_5.out); have n1_ := Aside0.mk (Kd.R_at hq_ HO_6.out); have n2_ := Aside0.mk (below_at hq_ HB.out); clear hq_ HO_5 HO_6 HB; have HO_5 := n0_; have HO_6 := n1_; have HB := n2_; clear n0_ n1_ n2_; (try (obtain ⟨hy17_, hz17_⟩ := Kd.R_celln 0 HO_6.out (x7_1 : Int) (of_decide_eq_true (by first | (with_reducible assumption) | assumption)) (of_decide_eq_true (by first | (with_reducible assumption) | assumption)))); (try (have HP17 := Kd.R_putg HO_6.out (x7_1 : Int) t120)))); refine store_event (t := 2) (p := 47) (v := ?vo_w18) (w1 := (wr.setCell ⟨go16, (x7_1 : Int).toNat, none⟩ (.int .i64 t120))) ?hg ?ho ?hn ?hr ?_; (case ho => rfl); (case hg => rfl); (case hn => rfl); (case hr => first | (go_simp; done) | (go_simp; rfl)); intro w18 hw; have hg : wr.grownBy w18 (some go16) := (by rw [hw]; exact HP17.2); have hp_ : Kd.R (Kd.int .i64) 2 w18 w.heap.size (fun _ => True) (.slice (some ⟨go16, 0, none⟩) x6_1.length co16) y122 := (by rw [hw, Ny122.out]; exact HP17.1); clear HP17; have n0_ := Aside0.mk (Kd.R_over' (v := (.slice (some ⟨go16, 0, none⟩) x6_1.length co16)) (by (with_reducible repeat (first | apply Kd.R_alloc | apply Kd.R_drewN | apply Kd.R_drew)); exact HO_5.out) (Kd.R_typed HO_6.out) (by decide) hg); have n1_ := Aside0.mk (hp_); have n2_ := Aside0.mk ((by rw [hw]; exact below_set (HB.out) GB16.out : Below w.heap.size w w18)); clear HO_5; clear HO_6; clear HB; have HO_5 := n0_; have HO_6 := n1_; have HB := n2_; clear n0_ n1_ n2_; clear hg hw hp_))
                    repeat (go_quiet (first | (go_at_call 10; (with_reducible refine (eval_Binary.calls k1 (rd y113 x7_1) a0 a1 t120 true _ A12.out).mono ?_); rintro e w' ⟨rfl, ⟨nd, rfl⟩⟩; (try first | exact ⟨rfl, _, World.drewN_drewN _ _ _⟩ | exact ⟨rfl, _, Eq.trans (World.drewN_drewN _ _ _) (congrArg (World.drewN _) (Nat.add_assoc _ _ _))⟩); have p16 : 0 ≤ (x7_1 : Int) := of_decide_eq_true (by first | (with_reducible assumption) | assumption); have q16 : (x7_1 : Int) < ((x6_1.length : Int) : Int) := of_decide_eq_true (by first | (with_reducible assumption) | assumption); obtain ⟨go16, co16, eo16, gb16, gl16, cl16, HG16⟩ := Kd.R_form HO_6.out (by omega); (first | cases eo16 | (injection eo16 with ea_ en_ ec_; (first | subst ea_ | (injection ea_ with ea_; subst ea_)); subst ec_; clear en_)); have GB16 := Aside0.mk gb16; have GG16 := Aside0.mk HG16; clear gb16 gl16 HG16; obtain ⟨hx16_0, hf16_0⟩ := Kd.R_celln 0 HO_6.out (x7_1 : Int) p16 q16; replace p16 := eq_true p16; replace q16 := eq_true q16; obtain ⟨hy17_, hz17_⟩ := Kd.R_celln 0 HO_6.out (x7_1 : Int) (of_decide_eq_true (by first | (with_reducible assumption) | assumption)) (of_decide_eq_true (by first | (with_reducible assumption) | assumption)); have HP17 := Kd.R_putg HO_6.out (x7_1 : Int) t120) | ((with_reducible refine gate_store (t := 2) (p := 47) rfl ?_); (try (rw [drewN_self wr]; generalize hq_ : World.drewN wr _ = wr; have n0_ := Aside0.mk (Kd.R_at hq_ HO_5.out); have n1_ := Aside0.mk (Kd.R_at hq_ HO_6.out); have n2_ := Aside0.mk (below_at hq_ HB.out); clear hq_ HO_5 HO_6 HB; have HO_5 := n0_; have HO_6 := n1_; have HB := n2_; clear n0_ n1_ n2_; (try (obtain ⟨hy17_, hz17_⟩ := Kd.R_celln 0 HO_6.out (x7_1 : Int) (of_decide_eq_true (by first | (with_reducible assumption) | assumption)) (of_decide_eq_true (by first | (with_reducible assumption) | assumption)))); (try (have HP17 := Kd.R_putg HO_6.out (x7_1 : Int) t120)))); refine store_event (t := 2) (p := 47) (v := ?vo_w18) (w1 := (wr.setCell ⟨go16, (x7_1 : Int).toNat, none⟩ (.int .i64 t120))) ?hg ?ho ?hn ?hr ?_; (case ho => rfl); (case hg => rfl); (case hn => rfl); (case hr => first | (go_simp; done) | (go_simp; rfl)); intro w18 hw; have hg : wr.grownBy w18 (some go16) := (by rw [hw]; exact HP17.2); have hp_ : Kd.R (Kd.int .i64) 2 w18 w.heap.size (fun _ => True) (.slice (some ⟨go16, 0, none⟩) x6_1.length co16) y122 := (by rw [hw, Ny122.out]; exact HP17.1); clear HP17; have n0_ := Aside0.mk (Kd.R_over' (v := (.slice (some ⟨go16, 0, none⟩) x6_1.length co16)) (by (with_reducible repeat (first | apply Kd.R_alloc | apply Kd.R_drewN | apply Kd.R_drew)); exact HO_5.out) (Kd.R_typed HO_6.out) (by decide) hg); have n1_ := Aside0.mk (hp_); have n2_ := Aside0.mk ((by rw [hw]; exact below_set (HB.out) GB16.out : Below w.heap.size w w18)); clear HO_5; clear HO_6; clear HB; have HO_5 := n0_; have HO_6 := n1_; have HB := n2_; clear n0_ n1_ n2_; clear hg hw hp_)); try go_wp2_with (first | (go_at_call 10; (with_reducible refine (eval_Binary.calls k1 (rd y113 x7_1) a0 a1 t120 true _ A12.out).mono ?_); rintro e w' ⟨rfl, ⟨nd, rfl⟩⟩; (try first | exact ⟨rfl, _, World.drewN_drewN _ _ _⟩ | exact ⟨rfl, _, Eq.trans (World.drewN_drewN _ _ _) (congrArg (World.drewN _) (Nat.add_assoc _ _ _))⟩); have p16 : 0 ≤ (x7_1 : Int) := of_decide_eq_true (by first | (with_reducible assumption) | assumption); have q16 : (x7_1 : Int) < ((x6_1.length : Int) : Int) := of_decide_eq_true (by first | (with_reducible assumption) | assumption); obtain ⟨go16, co16, eo16, gb16, gl16, cl16, HG16⟩ := Kd.R_form HO_6.out (by omega); (first | cases eo16 | (injection eo16 with ea_ en_ ec_; (first | subst ea_ | (injection ea_ with ea_; subst ea_)); subst ec_; clear en_)); have GB16 := Aside0.mk gb16; have GG16 := Aside0.mk HG16; clear gb16 gl16 HG16; obtain ⟨hx16_0, hf16_0⟩ := Kd.R_celln 0 HO_6.out (x7_1 : Int) p16 q16; replace p16 := eq_true p16; replace q16 := eq_true q16; obtain ⟨hy17_, hz17_⟩ := Kd.R_celln 0 HO_6.out (x7_1 : Int) (of_decide_eq_true (by first | (with_reducible assumption) | assumption)) (of_decide_eq_true (by first | (with_reducible assumption) | assumption)); have HP17 := Kd.R_putg HO_6.out (x7_1 : Int) t120) | ((with_reducible refine gate_store (t := 2) (p := 47) rfl ?_); (try (rw [drewN_self wr]; generalize hq_ : World.drewN wr _ = wr; have n0_ := Aside0.mk (Kd.R_at hq_ HO_5.out); have n1_ := Aside0.mk (Kd.R_at hq_ HO_6.out); have n2_ := Aside0.mk (below_at hq_ HB.out); clear hq_ HO_5 HO_6 HB; have HO_5 := n0_; have HO_6 := n1_; have HB := n2_; clear n0_ n1_ n2_; (try (obtain ⟨hy17_, hz17_⟩ := Kd.R_celln 0 HO_6.out (x7_1 : Int) (of_decide_eq_true (by first | (with_reducible assumption) | assumption)) (of_decide_eq_true (by first | (with_reducible assumption) | assumption)))); (try (have HP17 := Kd.R_putg HO_6.out (x7_1 : Int) t120)))); refine store_event (t := 2) (p := 47) (v := ?vo_w18) (w1 := (wr.setCell ⟨go16, (x7_1 : Int).toNat, none⟩ (.int .i64 t120))) ?hg ?ho ?hn ?hr ?_; (case ho => rfl); (case hg => rfl); (case hn => rfl); (case hr => first | (go_simp; done) | (go_simp; rfl)); intro w18 hw; have hg : wr.grownBy w18 (some go16) := (by rw [hw]; exact HP17.2); have hp_ : Kd.R (Kd.int .i64) 2 w18 w.heap.size (fun _ => True) (.slice (some ⟨go16, 0, none⟩) x6_1.length co16) y122 := (by rw [hw, Ny122.out]; exact HP17.1); clear HP17; have n0_ := Aside0.mk (Kd.R_over' (v := (.slice (some ⟨go16, 0, none⟩) x6_1.length co16)) (by (with_reducible repeat (first | apply Kd.R_alloc | apply Kd.R_drewN | apply Kd.R_drew)); exact HO_5.out) (Kd.R_typed HO_6.out) (by decide) hg); have n1_ := Aside0.mk (hp_); have n2_ := Aside0.mk ((by rw [hw]; exact below_set (HB.out) GB16.out : Below w.heap.size w w18)); clear HO_5; clear HO_6; clear HB; have HO_5 := n0_; have HO_6 := n1_; have HB := n2_; clear n0_ n1_ n2_; clear hg hw hp_)))
                    go_roundg k1
                    case measure => have := HK1.out; omega
                    case rel => exact ⟨(y122), (wrap64 (x7_1 + 1)), (by first | rfl | (simp; done) | (simp [*]; done)), H', ⟨by have := HK1.out; omega⟩, ⟨by (with_reducible repeat (first | apply Kd.R_alloc | apply Kd.R_drewN | apply Kd.R_drew)); exact HO_5.out⟩, ⟨by (with_reducible repeat (first | apply Kd.R_alloc | apply Kd.R_drewN | apply Kd.R_drew)); exact HO_6.out⟩, ⟨by repeat (first | (with_reducible first | exact HB.out | apply below_alloc | apply pw_below_drewN | apply below_drew1) | exact HB.out)⟩⟩
                  · rw [if_neg c15] at H
                    exact absurd H (by simp)
                · rw [if_neg c14] at H
                  have c14b0 : (t120 == 0) = false := beq_eq_false_iff_ne.mpr c14
                  have c14b1 : (t120 != 0) = true := bne_iff_ne.mpr c14
                  by_cases c19 : t120 = 1
                  · rw [if_pos c19] at H
                    have c19b0 : (t120 == 1) = true := beq_iff_eq.mpr c19
                    have c19b1 : (t120 != 1) = false := bne_eq_false_iff_eq.mpr c19
                    clear c19
                    by_cases c20 : x7_1 < (x6_1.length : Int)
                    · rw [if_pos c20] at H
                      have c20b0 : decide (x7_1 < (x6_1.length : Int)) = true := decide_eq_true c20
                      clear c20
                      obtain ⟨y123, hy123⟩ : ∃ y_ : List Int, y_ = (x6_1.set (x7_1 : Int).toNat t120) := ⟨_, rfl⟩
                      replace H : (interleavelaw05_EvalOrders.l0 k1 a0 a1 y113 y123 (wrap64 (x7_1 + 1))) = some r := by first | (rw [hy123]; with_reducible exact H) | (have H2_ := (Option.bind_some _ _).symm.trans H; rw [hy123]; with_reducible exact H2_) | (have H2_ := (Option.bind_some _ _).symm.trans H; with_reducible exact H2_) | with_reducible exact H | (rw [hy123]; exact H) | exact H
                      have Ny123 := Aside0.mk hy123
                      clear hy123
                      have H' := Aside0.mk H
                      clear H
                      have p119 : 0 ≤ (x7_1 : Int) := of_decide_eq_true (by first | (with_reducible assumption) | assumption)
                      have q119 : x7_1 < (y113.length : Int) := of_decide_eq_true (by first | (with_reducible assumption) | assumption)
                      obtain ⟨ad119, e119, hx119_0⟩ := Kd.at_int (Kd.R_reads' HO_5.out).2.2 x7_1 p119 q119
                      cases e119
                      replace p119 := eq_true p119
                      replace q119 := eq_true q119
                      go_wp2_with (first | (go_at_call 10; (with_reducible refine (eval_Binary.calls k1 (rd y113 x7_1) a0 a1 t120 true _ A12.out).mono ?_); rintro e w' ⟨rfl, ⟨nd, rfl⟩⟩; (try first | exact ⟨rfl, _, World.drewN_drewN _ _ _⟩ | exact ⟨rfl, _, Eq.trans (World.drewN_drewN _ _ _) (congrArg (World.drewN _) (Nat.add_assoc _ _ _))⟩); have p21 : 0 ≤ (x7_1 : Int) := of_decide_eq_true (by first | (with_reducible assumption) | assumption); have q21 : (x7_1 : Int) < ((x6_1.length : Int) : Int) := of_decide_eq_true (by first | (with_reducible assumption) | assumption); obtain ⟨go21, co21, eo21, gb21, gl21, cl21, HG21⟩ := Kd.R_form HO_6.out (by omega); (first | cases eo21 | (injection eo21 with ea_ en_ ec_; (first | subst ea_ | (injection ea_ with ea_; subst ea_)); subst ec_; clear en_)); have GB21 := Aside0.mk gb21; have GG21 := Aside0.mk HG21; clear gb21 gl21 HG21; obtain ⟨hx21_0, hf21_0⟩ := Kd.R_celln 0 HO_6.out (x7_1 : Int) p21 q21; replace p21 := eq_true p21; replace q21 := eq_true q21; obtain ⟨hy22_, hz22_⟩ := Kd.R_celln 0 HO_6.out (x7_1 : Int) (of_decide_eq_true (by first | (with_reducible assumption) | assumption)) (of_decide_eq_true (by first | (with_reducible assumption) | assumption)); have HP22 := Kd.R_putg HO_6.out (x7_1 : Int) t120) | ((with_reducible refine gate_store (t := 2) (p := 47) rfl ?_); (try (rw [drewN_self wr]; generalize hq_ : World.drewN wr _ = wr; have n0_ := Aside0.mk (Kd.R_at hq_ HO_5.out); have n1_ := Aside0.mk (Kd.R_at hq_ HO_6.out); have n2_ := Aside0.mk (below_at hq_ HB.out); clear hq_ HO_5 HO_6 HB; have HO_5 := n0_; have HO_6 := n1_; have HB := n2_; clear n0_ n1_ n2_; (try (obtain ⟨hy22_, hz22_⟩ := Kd.R_celln 0 HO_6.out (x7_1 : Int) (of_decide_eq_true (by first | (with_reducible assumption) | assumption)) (of_decide_eq_true (by first | (with_reducible assumption) | assumption)))); (try (have HP22 := Kd.R_putg HO_6.out (x7_1 : Int) t120)))); refine store_event (t := 2) (p := 47) (v := ?vo_w23) (w1 := (wr.setCell ⟨go21, (x7_1 : Int).toNat, none⟩ (.int .i64 t120))) ?hg ?ho ?hn ?hr ?_; (case ho => rfl); (case hg => rfl); (case hn => rfl); (case hr => first | (go_simp; done) | (go_simp; rfl)); intro w23 hw; have hg : wr.grownBy w23 (some go21) := (by rw [hw]; exact HP22.2); have hp_ : Kd.R (Kd.int .i64) 2 w23 w.heap.size (fun _ => True) (.slice (some ⟨go21, 0, none⟩) x6_1.length co21) y123 := (by rw [hw, Ny123.out]; exact HP22.1); clear HP22; have n0_ := Aside0.mk (Kd.R_over' (v := (.slice (some ⟨go21, 0, none⟩) x6_1.length co21)) (by (with_reducible repeat (first | apply Kd.R_alloc | apply Kd.R_drewN | apply Kd.R_drew)); exact HO_5.out) (Kd.R_typed HO_6.out) (by decide) hg); have n1_ := Aside0.mk (hp_); have n2_ := Aside0.mk ((by rw [hw]; exact below_set (HB.out) GB21.out : Below w.heap.size w w23)); clear HO_5; clear HO_6; clear HB; have HO_5 := n0_; have HO_6 := n1_; have HB := n2_; clear n0_ n1_ n2_; clear hg hw hp_))
                      repeat (go_quiet (first | (go_at_call 10; (with_reducible refine (eval_Binary.calls k1 (rd y113 x7_1) a0 a1 t120 true _ A12.out).mono ?_); rintro e w' ⟨rfl, ⟨nd, rfl⟩⟩; (try first | exact ⟨rfl, _, World.drewN_drewN _ _ _⟩ | exact ⟨rfl, _, Eq.trans (World.drewN_drewN _ _ _) (congrArg (World.drewN _) (Nat.add_assoc _ _ _))⟩); have p21 : 0 ≤ (x7_1 : Int) := of_decide_eq_true (by first | (with_reducible assumption) | assumption); have q21 : (x7_1 : Int) < ((x6_1.length : Int) : Int) := of_decide_eq_true (by first | (with_reducible assumption) | assumption); obtain ⟨go21, co21, eo21, gb21, gl21, cl21, HG21⟩ := Kd.R_form HO_6.out (by omega); (first | cases eo21 | (injection eo21 with ea_ en_ ec_; (first | subst ea_ | (injection ea_ with ea_; subst ea_)); subst ec_; clear en_)); have GB21 := Aside0.mk gb21; have GG21 := Aside0.mk HG21; clear gb21 gl21 HG21; obtain ⟨hx21_0, hf21_0⟩ := Kd.R_celln 0 HO_6.out (x7_1 : Int) p21 q21; replace p21 := eq_true p21; replace q21 := eq_true q21; obtain ⟨hy22_, hz22_⟩ := Kd.R_celln 0 HO_6.out (x7_1 : Int) (of_decide_eq_true (by first | (with_reducible assumption) | assumption)) (of_decide_eq_true (by first | (with_reducible assumption) | assumption)); have HP22 := Kd.R_putg HO_6.out (x7_1 : Int) t120) | ((with_reducible refine gate_store (t := 2) (p := 47) rfl ?_); (try (rw [drewN_self wr]; generalize hq_ : World.drewN wr _ = wr; have n0_ := Aside0.mk (Kd.R_at hq_ HO_5.out); have n1_ := Aside0.mk (Kd.R_at hq_ HO_6.out); have n2_ := Aside0.mk (below_at hq_ HB.out); clear hq_ HO_5 HO_6 HB; have HO_5 := n0_; have HO_6 := n1_; have HB := n2_; clear n0_ n1_ n2_; (try (obtain ⟨hy22_, hz22_⟩ := Kd.R_celln 0 HO_6.out (x7_1 : Int) (of_decide_eq_true (by first | (with_reducible assumption) | assumption)) (of_decide_eq_true (by first | (with_reducible assumption) | assumption)))); (try (have HP22 := Kd.R_putg HO_6.out (x7_1 : Int) t120)))); refine store_event (t := 2) (p := 47) (v := ?vo_w23) (w1 := (wr.setCell ⟨go21, (x7_1 : Int).toNat, none⟩ (.int .i64 t120))) ?hg ?ho ?hn ?hr ?_; (case ho => rfl); (case hg => rfl); (case hn => rfl); (case hr => first | (go_simp; done) | (go_simp; rfl)); intro w23 hw; have hg : wr.grownBy w23 (some go21) := (by rw [hw]; exact HP22.2); have hp_ : Kd.R (Kd.int .i64) 2 w23 w.heap.size (fun _ => True) (.slice (some ⟨go21, 0, none⟩) x6_1.length co21) y123 := (by rw [hw, Ny123.out]; exact HP22.1); clear HP22; have n0_ := Aside0.mk (Kd.R_over' (v := (.slice (some ⟨go21, 0, none⟩) x6_1.length co21)) (by (with_reducible repeat (first | apply Kd.R_alloc | apply Kd.R_drewN | apply Kd.R_drew)); exact HO_5.out) (Kd.R_typed HO_6.out) (by decide) hg); have n1_ := Aside0.mk (hp_); have n2_ := Aside0.mk ((by rw [hw]; exact below_set (HB.out) GB21.out : Below w.heap.size w w23)); clear HO_5; clear HO_6; clear HB; have HO_5 := n0_; have HO_6 := n1_; have HB := n2_; clear n0_ n1_ n2_; clear hg hw hp_)); try go_wp2_with (first | (go_at_call 10; (with_reducible refine (eval_Binary.calls k1 (rd y113 x7_1) a0 a1 t120 true _ A12.out).mono ?_); rintro e w' ⟨rfl, ⟨nd, rfl⟩⟩; (try first | exact ⟨rfl, _, World.drewN_drewN _ _ _⟩ | exact ⟨rfl, _, Eq.trans (World.drewN_drewN _ _ _) (congrArg (World.drewN _) (Nat.add_assoc _ _ _))⟩); have p21 : 0 ≤ (x7_1 : Int) := of_decide_eq_true (by first | (with_reducible assumption) | assumption); have q21 : (x7_1 : Int) < ((x6_1.length : Int) : Int) := of_decide_eq_true (by first | (with_reducible assumption) | assumption); obtain ⟨go21, co21, eo21, gb21, gl21, cl21, HG21⟩ := Kd.R_form HO_6.out (by omega); (first | cases eo21 | (injection eo21 with ea_ en_ ec_; (first | subst ea_ | (injection ea_ with ea_; subst ea_)); subst ec_; clear en_)); have GB21 := Aside0.mk gb21; have GG21 := Aside0.mk HG21; clear gb21 gl21 HG21; obtain ⟨hx21_0, hf21_0⟩ := Kd.R_celln 0 HO_6.out (x7_1 : Int) p21 q21; replace p21 := eq_true p21; replace q21 := eq_true q21; obtain ⟨hy22_, hz22_⟩ := Kd.R_celln 0 HO_6.out (x7_1 : Int) (of_decide_eq_true (by first | (with_reducible assumption) | assumption)) (of_decide_eq_true (by first | (with_reducible assumption) | assumption)); have HP22 := Kd.R_putg HO_6.out (x7_1 : Int) t120) | ((with_reducible refine gate_store (t := 2) (p := 47) rfl ?_); (try (rw [drewN_self wr]; generalize hq_ : World.drewN wr _ = wr; have n0_ := Aside0.mk (Kd.R_at hq_ HO_5.out); have n1_ := Aside0.mk (Kd.R_at hq_ HO_6.out); have n2_ := Aside0.mk (below_at hq_ HB.out); clear hq_ HO_5 HO_6 HB; have HO_5 := n0_; have HO_6 := n1_; have HB := n2_; clear n0_ n1_ n2_; (try (obtain ⟨hy22_, hz22_⟩ := Kd.R_celln 0 HO_6.out (x7_1 : Int) (of_decide_eq_true (by first | (with_reducible assumption) | assumption)) (of_decide_eq_true (by first | (with_reducible assumption) | assumption)))); (try (have HP22 := Kd.R_putg HO_6.out (x7_1 : Int) t120)))); refine store_event (t := 2) (p := 47) (v := ?vo_w23) (w1 := (wr.setCell ⟨go21, (x7_1 : Int).toNat, none⟩ (.int .i64 t120))) ?hg ?ho ?hn ?hr ?_; (case ho => rfl); (case hg => rfl); (case hn => rfl); (case hr => first | (go_simp; done) | (go_simp; rfl)); intro w23 hw; have hg : wr.grownBy w23 (some go21) := (by rw [hw]; exact HP22.2); have hp_ : Kd.R (Kd.int .i64) 2 w23 w.heap.size (fun _ => True) (.slice (some ⟨go21, 0, none⟩) x6_1.length co21) y123 := (by rw [hw, Ny123.out]; exact HP22.1); clear HP22; have n0_ := Aside0.mk (Kd.R_over' (v := (.slice (some ⟨go21, 0, none⟩) x6_1.length co21)) (by (with_reducible repeat (first | apply Kd.R_alloc | apply Kd.R_drewN | apply Kd.R_drew)); exact HO_5.out) (Kd.R_typed HO_6.out) (by decide) hg); have n1_ := Aside0.mk (hp_); have n2_ := Aside0.mk ((by rw [hw]; exact below_set (HB.out) GB21.out : Below w.heap.size w w23)); clear HO_5; clear HO_6; clear HB; have HO_5 := n0_; have HO_6 := n1_; have HB := n2_; clear n0_ n1_ n2_; clear hg hw hp_)))
                      go_roundg k1
                      case measure => have := HK1.out; omega
                      case rel => exact ⟨(y123), (wrap64 (x7_1 + 1)), (by first | rfl | (simp; done) | (simp [*]; done)), H', ⟨by have := HK1.out; omega⟩, ⟨by (with_reducible repeat (first | apply Kd.R_alloc | apply Kd.R_drewN | apply Kd.R_drew)); exact HO_5.out⟩, ⟨by (with_reducible repeat (first | apply Kd.R_alloc | apply Kd.R_drewN | apply Kd.R_drew)); exact HO_6.out⟩, ⟨by repeat (first | (with_reducible first | exact HB.out | apply below_alloc | apply pw_below_drewN | apply below_drew1) | exact HB.out)⟩⟩
                    · rw [if_neg c20] at H
                      exact absurd H (by simp)
                  · rw [if_neg c19] at H
                    have c19b0 : (t120 == 1) = false := beq_eq_false_iff_ne.mpr c19
                    have c19b1 : (t120 != 1) = true := bne_iff_ne.mpr c19
                    obtain rfl := Option.some.inj H
                    have p119 : 0 ≤ (x7_1 : Int) := of_decide_eq_true (by first | (with_reducible assumption) | assumption)
                    have q119 : x7_1 < (y113.length : Int) := of_decide_eq_true (by first | (with_reducible assumption) | assumption)
                    obtain ⟨ad119, e119, hx119_0⟩ := Kd.at_int (Kd.R_reads' HO_5.out).2.2 x7_1 p119 q119
                    cases e119
                    replace p119 := eq_true p119
                    replace q119 := eq_true q119
                    go_wp2_with (first | (go_at_call 10; (with_reducible refine (eval_Binary.calls k1 (rd y113 x7_1) a0 a1 t120 true _ A12.out).mono ?_); rintro e w' ⟨rfl, ⟨nd, rfl⟩⟩; (try first | exact ⟨rfl, _, World.drewN_drewN _ _ _⟩ | exact ⟨rfl, _, Eq.trans (World.drewN_drewN _ _ _) (congrArg (World.drewN _) (Nat.add_assoc _ _ _))⟩)))
                    repeat (go_quiet (first | (go_at_call 10; (with_reducible refine (eval_Binary.calls k1 (rd y113 x7_1) a0 a1 t120 true _ A12.out).mono ?_); rintro e w' ⟨rfl, ⟨nd, rfl⟩⟩; (try first | exact ⟨rfl, _, World.drewN_drewN _ _ _⟩ | exact ⟨rfl, _, Eq.trans (World.drewN_drewN _ _ _) (congrArg (World.drewN _) (Nat.add_assoc _ _ _))⟩))); try go_wp2_with (first | (go_at_call 10; (with_reducible refine (eval_Binary.calls k1 (rd y113 x7_1) a0 a1 t120 true _ A12.out).mono ?_); rintro e w' ⟨rfl, ⟨nd, rfl⟩⟩; (try first | exact ⟨rfl, _, World.drewN_drewN _ _ _⟩ | exact ⟨rfl, _, Eq.trans (World.drewN_drewN _ _ _) (congrArg (World.drewN _) (Nat.add_assoc _ _ _))⟩))))
                    go_ret
                    exact ⟨by first | rfl | (simp [errW_none, errW_some] <;> rfl) | (simp [*, errW_none, errW_some] <;> rfl), by repeat (first | (with_reducible first | exact HB.out | apply below_alloc | apply pw_below_drewN | apply below_drew1) | exact HB.out)⟩
              · replace c13 := Bool.eq_false_iff.mpr c13
                subst c13
                have H1 : (some false) = some r := by rw [if_neg (show ¬ (false = true) by decide)] at H; exact H
                clear H
                have H := H1
                clear H1
                obtain rfl := Option.some.inj H
                have p119 : 0 ≤ (x7_1 : Int) := of_decide_eq_true (by first | (with_reducible assumption) | assumption)
                have q119 : x7_1 < (y113.length : Int) := of_decide_eq_true (by first | (with_reducible assumption) | assumption)
                obtain ⟨ad119, e119, hx119_0⟩ := Kd.at_int (Kd.R_reads' HO_5.out).2.2 x7_1 p119 q119
                cases e119
                replace p119 := eq_true p119
                replace q119 := eq_true q119
                go_wp2_with (first | (go_at_call 10; (with_reducible refine (eval_Binary.calls k1 (rd y113 x7_1) a0 a1 t120 false _ A12.out).mono ?_); rintro e w' ⟨rfl, ⟨nd, rfl⟩⟩; (try first | exact ⟨rfl, _, World.drewN_drewN _ _ _⟩ | exact ⟨rfl, _, Eq.trans (World.drewN_drewN _ _ _) (congrArg (World.drewN _) (Nat.add_assoc _ _ _))⟩)))
                repeat (go_quiet (first | (go_at_call 10; (with_reducible refine (eval_Binary.calls k1 (rd y113 x7_1) a0 a1 t120 false _ A12.out).mono ?_); rintro e w' ⟨rfl, ⟨nd, rfl⟩⟩; (try first | exact ⟨rfl, _, World.drewN_drewN _ _ _⟩ | exact ⟨rfl, _, Eq.trans (World.drewN_drewN _ _ _) (congrArg (World.drewN _) (Nat.add_assoc _ _ _))⟩))); try go_wp2_with (first | (go_at_call 10; (with_reducible refine (eval_Binary.calls k1 (rd y113 x7_1) a0 a1 t120 false _ A12.out).mono ?_); rintro e w' ⟨rfl, ⟨nd, rfl⟩⟩; (try first | exact ⟨rfl, _, World.drewN_drewN _ _ _⟩ | exact ⟨rfl, _, Eq.trans (World.drewN_drewN _ _ _) (congrArg (World.drewN _) (Nat.add_assoc _ _ _))⟩))))
                go_ret
                exact ⟨by first | rfl | (simp [errW_none, errW_some] <;> rfl) | (simp [*, errW_none, errW_some] <;> rfl), by repeat (first | (with_reducible first | exact HB.out | apply below_alloc | apply pw_below_drewN | apply below_drew1) | exact HB.out)⟩
            · rw [if_neg c11] at H
              exact absurd H (by simp)
          · rw [if_neg c10] at H
            have c10b0 : decide (x7_1 < (y113.length : Int)) = false := decide_eq_false c10
            clear c10
            have HC24 := Aside0.mk H
            clear H
            go_upto_region 10 with (fail)
            repeat (go_quiet (fail); go_upto_region 10 with (fail))
            go_cut [89] (fun v89 wc => ∃ (kq : Nat) (x89_23 : Bool), v89 = .bool x89_23 ∧ Aside0 (interleavelaw05_EvalOrders.j1 kq a0 a1 x6_1 x89_23 = some r) ∧ Aside0 (kq ≤ k1) ∧ Aside0 (Kd.R (Kd.int .i64) 2 wc w.heap.size (fun _ => True) v117 x6_1) ∧ Aside0 (Below w.heap.size w wc))
            case first =>
              have H := HC24.out
              clear HC24
              by_cases c25 : 0 < (x6_1.length : Int)
              · rw [if_pos c25] at H
                have c25b0 : decide (0 < (x6_1.length : Int)) = true := decide_eq_true c25
                have c25b1 : decide (0 < x6_1.length) = true := decide_eq_true (by omega)
                clear c25
                (first | rw [c25b0] | (simp only [i64_w, i32_w]; rw [c25b0]) | skip)
                by_cases c26 : 1 < (x6_1.length : Int)
                · rw [if_pos c26] at H
                  have c26b0 : decide (1 < (x6_1.length : Int)) = true := decide_eq_true c26
                  have c26b1 : decide (1 < x6_1.length) = true := decide_eq_true (by omega)
                  clear c26
                  by_cases c27 : 2 < (x6_1.length : Int)
                  · rw [if_pos c27] at H
                    have c27b0 : decide (2 < (x6_1.length : Int)) = true := decide_eq_true c27
                    have c27b1 : decide (2 < x6_1.length) = true := decide_eq_true (by omega)
                    clear c27
                    by_cases c28 : (wrap64 ((wrap64 ((rd x6_1 0) + (rd x6_1 1))) + (rd x6_1 2))) = 1
                    · rw [if_pos c28] at H
                      have c28b0 : ((wrap64 ((wrap64 ((rd x6_1 0) + (rd x6_1 1))) + (rd x6_1 2))) == 1) = true := beq_iff_eq.mpr c28
                      have c28b1 : ((wrap64 ((wrap64 ((rd x6_1 0) + (rd x6_1 1))) + (rd x6_1 2))) != 1) = false := bne_eq_false_iff_eq.mpr c28
                      clear c28
                      by_cases c29 : 3 < (x6_1.length : Int)
                      · rw [if_pos c29] at H
                        have c29b0 : decide (3 < (x6_1.length : Int)) = true := decide_eq_true c29
                        have c29b1 : decide (3 < x6_1.length) = true := decide_eq_true (by omega)
                        clear c29
                        by_cases c30 : (rd x6_1 3) = (wrap64 (1 - (rd x6_1 0)))
                        · rw [if_pos c30] at H
                          have c30b0 : ((rd x6_1 3) == (wrap64 (1 - (rd x6_1 0)))) = true := beq_iff_eq.mpr c30
                          have c30b1 : ((rd x6_1 3) != (wrap64 (1 - (rd x6_1 0)))) = false := bne_eq_false_iff_eq.mpr c30
                          clear c30
                          by_cases c31 : 4 < (x6_1.length : Int)
                          · rw [if_pos c31] at H
                            have c31b0 : decide (4 < (x6_1.length : Int)) = true := decide_eq_true c31
                            have c31b1 : decide (4 < x6_1.length) = true := decide_eq_true (by omega)
                            clear c31
                            by_cases c32 : (rd x6_1 4) = (wrap64 (1 - (rd x6_1 1)))
                            · rw [if_pos c32] at H
                              have c32b0 : ((rd x6_1 4) == (wrap64 (1 - (rd x6_1 1)))) = true := beq_iff_eq.mpr c32
                              have c32b1 : ((rd x6_1 4) != (wrap64 (1 - (rd x6_1 1)))) = false := bne_eq_false_iff_eq.mpr c32
                              clear c32
                              by_cases c33 : 5 < (x6_1.length : Int)
                              · rw [if_pos c33] at H
                                have c33b0 : decide (5 < (x6_1.length : Int)) = true := decide_eq_true c33
                                have c33b1 : decide (5 < x6_1.length) = true := decide_eq_true (by omega)
                                clear c33
                                have H' := Aside0.mk H
                                clear H
                                obtain ⟨Ao34, co34, eo34⟩ := Kd.R_slice HO_6.out
                                subst eo34
                                have p124 : 0 ≤ (0 : Int) := (by omega)
                                have q124 : 0 < (x6_1.length : Int) := of_decide_eq_true (by first | (with_reducible assumption) | assumption)
                                obtain ⟨ad124, e124, hx124_0⟩ := Kd.at_int (Kd.R_reads' HO_6.out).2.2 0 p124 q124
                                cases e124
                                have qi124 : (0 < x6_1.length) = True := eq_true (by omega)
                                (try rw [show ((0 : Int)).toNat = 0 from rfl] at hx124_0)
                                (try rw [Addr.add_zero'] at hx124_0)
                                replace p124 := eq_true p124
                                replace q124 := eq_true q124
                                have p125 : 0 ≤ (1 : Int) := (by omega)
                                have q125 : 1 < (x6_1.length : Int) := of_decide_eq_true (by first | (with_reducible assumption) | assumption)
                                obtain ⟨ad125, e125, hx125_0⟩ := Kd.at_int (Kd.R_reads' HO_6.out).2.2 1 p125 q125
                                obtain rfl : ad124 = ad125 := (by injection e125)
                                (try simp only [show (1 : Int).toNat = 1 from rfl, Nat.reduceMul, Nat.reduceEqDiff, Go.Addr.add, ↓reduceIte] at hx125_0)
                                have qi125 : (1 < x6_1.length) = True := eq_true (by omega)
                                (try rw [show ((1 : Int)).toNat = 1 from rfl] at hx125_0)
                                replace p125 := eq_true p125
                                replace q125 := eq_true q125
                                have p126 : 0 ≤ (2 : Int) := (by omega)
                                have q126 : 2 < (x6_1.length : Int) := of_decide_eq_true (by first | (with_reducible assumption) | assumption)
                                obtain ⟨ad126, e126, hx126_0⟩ := Kd.at_int (Kd.R_reads' HO_6.out).2.2 2 p126 q126
                                obtain rfl : ad124 = ad126 := (by injection e126)
                                (try simp only [show (2 : Int).toNat = 2 from rfl, Nat.reduceMul, Nat.reduceEqDiff, Go.Addr.add, ↓reduceIte] at hx126_0)
                                have qi126 : (2 < x6_1.length) = True := eq_true (by omega)
                                (try rw [show ((2 : Int)).toNat = 2 from rfl] at hx126_0)
                                replace p126 := eq_true p126
                                replace q126 := eq_true q126
                                have p127 : 0 ≤ (3 : Int) := (by omega)
                                have q127 : 3 < (x6_1.length : Int) := of_decide_eq_true (by first | (with_reducible assumption) | assumption)
                                obtain ⟨ad127, e127, hx127_0⟩ := Kd.at_int (Kd.R_reads' HO_6.out).2.2 3 p127 q127
                                obtain rfl : ad124 = ad127 := (by injection e127)
                                (try simp only [show (3 : Int).toNat = 3 from rfl, Nat.reduceMul, Nat.reduceEqDiff, Go.Addr.add, ↓reduceIte] at hx127_0)
                                have qi127 : (3 < x6_1.length) = True := eq_true (by omega)
                                (try rw [show ((3 : Int)).toNat = 3 from rfl] at hx127_0)
                                replace p127 := eq_true p127
                                replace q127 := eq_true q127
                                have p128 : 0 ≤ (0 : Int) := (by omega)
                                have q128 : 0 < (x6_1.length : Int) := of_decide_eq_true (by first | (with_reducible assumption) | assumption)
                                obtain ⟨ad128, e128, hx128_0⟩ := Kd.at_int (Kd.R_reads' HO_6.out).2.2 0 p128 q128
                                obtain rfl : ad124 = ad128 := (by injection e128)
                                have qi128 : (0 < x6_1.length) = True := eq_true (by omega)
                                (try rw [show ((0 : Int)).toNat = 0 from rfl] at hx128_0)
                                (try rw [Addr.add_zero'] at hx128_0)
                                replace p128 := eq_true p128
                                replace q128 := eq_true q128
                                have p129 : 0 ≤ (4 : Int) := (by omega)
                                have q129 : 4 < (x6_1.length : Int) := of_decide_eq_true (by first | (with_reducible assumption) | assumption)
                                obtain ⟨ad129, e129, hx129_0⟩ := Kd.at_int (Kd.R_reads' HO_6.out).2.2 4 p129 q129
                                obtain rfl : ad124 = ad129 := (by injection e129)
                                (try simp only [show (4 : Int).toNat = 4 from rfl, Nat.reduceMul, Nat.reduceEqDiff, Go.Addr.add, ↓reduceIte] at hx129_0)
                                have qi129 : (4 < x6_1.length) = True := eq_true (by omega)
                                (try rw [show ((4 : Int)).toNat = 4 from rfl] at hx129_0)
                                replace p129 := eq_true p129
                                replace q129 := eq_true q129
                                have p130 : 0 ≤ (1 : Int) := (by omega)
                                have q130 : 1 < (x6_1.length : Int) := of_decide_eq_true (by first | (with_reducible assumption) | assumption)
                                obtain ⟨ad130, e130, hx130_0⟩ := Kd.at_int (Kd.R_reads' HO_6.out).2.2 1 p130 q130
                                obtain rfl : ad124 = ad130 := (by injection e130)
                                (try simp only [show (1 : Int).toNat = 1 from rfl, Nat.reduceMul, Nat.reduceEqDiff, Go.Addr.add, ↓reduceIte] at hx130_0)
                                have qi130 : (1 < x6_1.length) = True := eq_true (by omega)
                                (try rw [show ((1 : Int)).toNat = 1 from rfl] at hx130_0)
                                replace p130 := eq_true p130
                                replace q130 := eq_true q130
                                have p131 : 0 ≤ (5 : Int) := (by omega)
                                have q131 : 5 < (x6_1.length : Int) := of_decide_eq_true (by first | (with_reducible assumption) | assumption)
                                obtain ⟨ad131, e131, hx131_0⟩ := Kd.at_int (Kd.R_reads' HO_6.out).2.2 5 p131 q131
                                obtain rfl : ad124 = ad131 := (by injection e131)
                                (try simp only [show (5 : Int).toNat = 5 from rfl, Nat.reduceMul, Nat.reduceEqDiff, Go.Addr.add, ↓reduceIte] at hx131_0)
                                have qi131 : (5 < x6_1.length) = True := eq_true (by omega)
                                (try rw [show ((5 : Int)).toNat = 5 from rfl] at hx131_0)
                                replace p131 := eq_true p131
                                replace q131 := eq_true q131
                                have p132 : 0 ≤ (2 : Int) := (by omega)
                                have q132 : 2 < (x6_1.length : Int) := of_decide_eq_true (by first | (with_reducible assumption) | assumption)
                                obtain ⟨ad132, e132, hx132_0⟩ := Kd.at_int (Kd.R_reads' HO_6.out).2.2 2 p132 q132
                                obtain rfl : ad124 = ad132 := (by injection e132)
                                (try simp only [show (2 : Int).toNat = 2 from rfl, Nat.reduceMul, Nat.reduceEqDiff, Go.Addr.add, ↓reduceIte] at hx132_0)
                                have qi132 : (2 < x6_1.length) = True := eq_true (by omega)
                                (try rw [show ((2 : Int)).toNat = 2 from rfl] at hx132_0)
                                replace p132 := eq_true p132
                                replace q132 := eq_true q132
                                go_wp2
                                repeat (go_quiet (fail); try go_wp2)
                                go_meet
                                case rel => exact ⟨_, (((rd x6_1 5) != (wrap64 (1 - (rd x6_1 2))))), (by first | rfl | (simp; done) | (simp [*]; done)), H', ⟨by have := HK1.out; first | omega | exact Nat.le_refl _⟩, ⟨by (with_reducible repeat (first | apply Kd.R_alloc | apply Kd.R_drewN | apply Kd.R_drew)); exact HO_6.out⟩, ⟨by repeat (first | (with_reducible first | exact HB.out | apply below_alloc | apply pw_below_drewN | apply below_drew1) | exact HB.out)⟩⟩
                              · rw [if_neg c33] at H
                                exact absurd H (by simp)
                            · rw [if_neg c32] at H
                              have c32b0 : ((rd x6_1 4) == (wrap64 (1 - (rd x6_1 1)))) = false := beq_eq_false_iff_ne.mpr c32
                              have c32b1 : ((rd x6_1 4) != (wrap64 (1 - (rd x6_1 1)))) = true := bne_iff_ne.mpr c32
                              have H' := Aside0.mk H
                              clear H
                              obtain ⟨Ao35, co35, eo35⟩ := Kd.R_slice HO_6.out
                              subst eo35
                              have p124 : 0 ≤ (0 : Int) := (by omega)
                              have q124 : 0 < (x6_1.length : Int) := of_decide_eq_true (by first | (with_reducible assumption) | assumption)
                              obtain ⟨ad124, e124, hx124_0⟩ := Kd.at_int (Kd.R_reads' HO_6.out).2.2 0 p124 q124
                              cases e124
                              have qi124 : (0 < x6_1.length) = True := eq_true (by omega)
                              (try rw [show ((0 : Int)).toNat = 0 from rfl] at hx124_0)
                              (try rw [Addr.add_zero'] at hx124_0)
                              replace p124 := eq_true p124
                              replace q124 := eq_true q124
                              have p125 : 0 ≤ (1 : Int) := (by omega)
                              have q125 : 1 < (x6_1.length : Int) := of_decide_eq_true (by first | (with_reducible assumption) | assumption)
                              obtain ⟨ad125, e125, hx125_0⟩ := Kd.at_int (Kd.R_reads' HO_6.out).2.2 1 p125 q125
                              obtain rfl : ad124 = ad125 := (by injection e125)
                              (try simp only [show (1 : Int).toNat = 1 from rfl, Nat.reduceMul, Nat.reduceEqDiff, Go.Addr.add, ↓reduceIte] at hx125_0)
                              have qi125 : (1 < x6_1.length) = True := eq_true (by omega)
                              (try rw [show ((1 : Int)).toNat = 1 from rfl] at hx125_0)
                              replace p125 := eq_true p125
                              replace q125 := eq_true q125
                              have p126 : 0 ≤ (2 : Int) := (by omega)
                              have q126 : 2 < (x6_1.length : Int) := of_decide_eq_true (by first | (with_reducible assumption) | assumption)
                              obtain ⟨ad126, e126, hx126_0⟩ := Kd.at_int (Kd.R_reads' HO_6.out).2.2 2 p126 q126
                              obtain rfl : ad124 = ad126 := (by injection e126)
                              (try simp only [show (2 : Int).toNat = 2 from rfl, Nat.reduceMul, Nat.reduceEqDiff, Go.Addr.add, ↓reduceIte] at hx126_0)
                              have qi126 : (2 < x6_1.length) = True := eq_true (by omega)
                              (try rw [show ((2 : Int)).toNat = 2 from rfl] at hx126_0)
                              replace p126 := eq_true p126
                              replace q126 := eq_true q126
                              have p127 : 0 ≤ (3 : Int) := (by omega)
                              have q127 : 3 < (x6_1.length : Int) := of_decide_eq_true (by first | (with_reducible assumption) | assumption)
                              obtain ⟨ad127, e127, hx127_0⟩ := Kd.at_int (Kd.R_reads' HO_6.out).2.2 3 p127 q127
                              obtain rfl : ad124 = ad127 := (by injection e127)
                              (try simp only [show (3 : Int).toNat = 3 from rfl, Nat.reduceMul, Nat.reduceEqDiff, Go.Addr.add, ↓reduceIte] at hx127_0)
                              have qi127 : (3 < x6_1.length) = True := eq_true (by omega)
                              (try rw [show ((3 : Int)).toNat = 3 from rfl] at hx127_0)
                              replace p127 := eq_true p127
                              replace q127 := eq_true q127
                              have p128 : 0 ≤ (0 : Int) := (by omega)
                              have q128 : 0 < (x6_1.length : Int) := of_decide_eq_true (by first | (with_reducible assumption) | assumption)
                              obtain ⟨ad128, e128, hx128_0⟩ := Kd.at_int (Kd.R_reads' HO_6.out).2.2 0 p128 q128
                              obtain rfl : ad124 = ad128 := (by injection e128)
                              have qi128 : (0 < x6_1.length) = True := eq_true (by omega)
                              (try rw [show ((0 : Int)).toNat = 0 from rfl] at hx128_0)
                              (try rw [Addr.add_zero'] at hx128_0)
                              replace p128 := eq_true p128
                              replace q128 := eq_true q128
                              have p129 : 0 ≤ (4 : Int) := (by omega)
                              have q129 : 4 < (x6_1.length : Int) := of_decide_eq_true (by first | (with_reducible assumption) | assumption)
                              obtain ⟨ad129, e129, hx129_0⟩ := Kd.at_int (Kd.R_reads' HO_6.out).2.2 4 p129 q129
                              obtain rfl : ad124 = ad129 := (by injection e129)
                              (try simp only [show (4 : Int).toNat = 4 from rfl, Nat.reduceMul, Nat.reduceEqDiff, Go.Addr.add, ↓reduceIte] at hx129_0)
                              have qi129 : (4 < x6_1.length) = True := eq_true (by omega)
                              (try rw [show ((4 : Int)).toNat = 4 from rfl] at hx129_0)
                              replace p129 := eq_true p129
                              replace q129 := eq_true q129
                              have p130 : 0 ≤ (1 : Int) := (by omega)
                              have q130 : 1 < (x6_1.length : Int) := of_decide_eq_true (by first | (with_reducible assumption) | assumption)
                              obtain ⟨ad130, e130, hx130_0⟩ := Kd.at_int (Kd.R_reads' HO_6.out).2.2 1 p130 q130
                              obtain rfl : ad124 = ad130 := (by injection e130)
                              (try simp only [show (1 : Int).toNat = 1 from rfl, Nat.reduceMul, Nat.reduceEqDiff, Go.Addr.add, ↓reduceIte] at hx130_0)
                              have qi130 : (1 < x6_1.length) = True := eq_true (by omega)
                              (try rw [show ((1 : Int)).toNat = 1 from rfl] at hx130_0)
                              replace p130 := eq_true p130
                              replace q130 := eq_true q130
                              go_wp2
                              repeat (go_quiet (fail); try go_wp2)
                              go_meet
                              case rel => exact ⟨_, (true), (by first | rfl | (simp; done) | (simp [*]; done)), H', ⟨by have := HK1.out; first | omega | exact Nat.le_refl _⟩, ⟨by (with_reducible repeat (first | apply Kd.R_alloc | apply Kd.R_drewN | apply Kd.R_drew)); exact HO_6.out⟩, ⟨by repeat (first | (with_reducible first | exact HB.out | apply below_alloc | apply pw_below_drewN | apply below_drew1) | exact HB.out)⟩⟩
                          · rw [if_neg c31] at H
                            exact absurd H (by simp)
                        · rw [if_neg c30] at H
                          have c30b0 : ((rd x6_1 3) == (wrap64 (1 - (rd x6_1 0)))) = false := beq_eq_false_iff_ne.mpr c30
                          have c30b1 : ((rd x6_1 3) != (wrap64 (1 - (rd x6_1 0)))) = true := bne_iff_ne.mpr c30
                          have H' := Aside0.mk H
                          clear H
                          obtain ⟨Ao36, co36, eo36⟩ := Kd.R_slice HO_6.out
                          subst eo36
                          have p124 : 0 ≤ (0 : Int) := (by omega)
                          have q124 : 0 < (x6_1.length : Int) := of_decide_eq_true (by first | (with_reducible assumption) | assumption)
                          obtain ⟨ad124, e124, hx124_0⟩ := Kd.at_int (Kd.R_reads' HO_6.out).2.2 0 p124 q124
                          cases e124
                          have qi124 : (0 < x6_1.length) = True := eq_true (by omega)
                          (try rw [show ((0 : Int)).toNat = 0 from rfl] at hx124_0)
                          (try rw [Addr.add_zero'] at hx124_0)
                          replace p124 := eq_true p124
                          replace q124 := eq_true q124
                          have p125 : 0 ≤ (1 : Int) := (by omega)
                          have q125 : 1 < (x6_1.length : Int) := of_decide_eq_true (by first | (with_reducible assumption) | assumption)
                          obtain ⟨ad125, e125, hx125_0⟩ := Kd.at_int (Kd.R_reads' HO_6.out).2.2 1 p125 q125
                          obtain rfl : ad124 = ad125 := (by injection e125)
                          (try simp only [show (1 : Int).toNat = 1 from rfl, Nat.reduceMul, Nat.reduceEqDiff, Go.Addr.add, ↓reduceIte] at hx125_0)
                          have qi125 : (1 < x6_1.length) = True := eq_true (by omega)
                          (try rw [show ((1 : Int)).toNat = 1 from rfl] at hx125_0)
                          replace p125 := eq_true p125
                          replace q125 := eq_true q125
                          have p126 : 0 ≤ (2 : Int) := (by omega)
                          have q126 : 2 < (x6_1.length : Int) := of_decide_eq_true (by first | (with_reducible assumption) | assumption)
                          obtain ⟨ad126, e126, hx126_0⟩ := Kd.at_int (Kd.R_reads' HO_6.out).2.2 2 p126 q126
                          obtain rfl : ad124 = ad126 := (by injection e126)
                          (try simp only [show (2 : Int).toNat = 2 from rfl, Nat.reduceMul, Nat.reduceEqDiff, Go.Addr.add, ↓reduceIte] at hx126_0)
                          have qi126 : (2 < x6_1.length) = True := eq_true (by omega)
                          (try rw [show ((2 : Int)).toNat = 2 from rfl] at hx126_0)
                          replace p126 := eq_true p126
                          replace q126 := eq_true q126
                          have p127 : 0 ≤ (3 : Int) := (by omega)
                          have q127 : 3 < (x6_1.length : Int) := of_decide_eq_true (by first | (with_reducible assumption) | assumption)
                          obtain ⟨ad127, e127, hx127_0⟩ := Kd.at_int (Kd.R_reads' HO_6.out).2.2 3 p127 q127
                          obtain rfl : ad124 = ad127 := (by injection e127)
                          (try simp only [show (3 : Int).toNat = 3 from rfl, Nat.reduceMul, Nat.reduceEqDiff, Go.Addr.add, ↓reduceIte] at hx127_0)
                          have qi127 : (3 < x6_1.length) = True := eq_true (by omega)
                          (try rw [show ((3 : Int)).toNat = 3 from rfl] at hx127_0)
                          replace p127 := eq_true p127
                          replace q127 := eq_true q127
                          have p128 : 0 ≤ (0 : Int) := (by omega)
                          have q128 : 0 < (x6_1.length : Int) := of_decide_eq_true (by first | (with_reducible assumption) | assumption)
                          obtain ⟨ad128, e128, hx128_0⟩ := Kd.at_int (Kd.R_reads' HO_6.out).2.2 0 p128 q128
                          obtain rfl : ad124 = ad128 := (by injection e128)
                          have qi128 : (0 < x6_1.length) = True := eq_true (by omega)
                          (try rw [show ((0 : Int)).toNat = 0 from rfl] at hx128_0)
                          (try rw [Addr.add_zero'] at hx128_0)
                          replace p128 := eq_true p128
                          replace q128 := eq_true q128
                          go_wp2
                          repeat (go_quiet (fail); try go_wp2)
                          go_meet
                          case rel => exact ⟨_, (true), (by first | rfl | (simp; done) | (simp [*]; done)), H', ⟨by have := HK1.out; first | omega | exact Nat.le_refl _⟩, ⟨by (with_reducible repeat (first | apply Kd.R_alloc | apply Kd.R_drewN | apply Kd.R_drew)); exact HO_6.out⟩, ⟨by repeat (first | (with_reducible first | exact HB.out | apply below_alloc | apply pw_below_drewN | apply below_drew1) | exact HB.out)⟩⟩
                      · rw [if_neg c29] at H
                        exact absurd H (by simp)
                    · rw [if_neg c28] at H
                      have c28b0 : ((wrap64 ((wrap64 ((rd x6_1 0) + (rd x6_1 1))) + (rd x6_1 2))) == 1) = false := beq_eq_false_iff_ne.mpr c28
                      have c28b1 : ((wrap64 ((wrap64 ((rd x6_1 0) + (rd x6_1 1))) + (rd x6_1 2))) != 1) = true := bne_iff_ne.mpr c28
                      have H' := Aside0.mk H
                      clear H
                      obtain ⟨Ao37, co37, eo37⟩ := Kd.R_slice HO_6.out
                      subst eo37
                      have p124 : 0 ≤ (0 : Int) := (by omega)
                      have q124 : 0 < (x6_1.length : Int) := of_decide_eq_true (by first | (with_reducible assumption) | assumption)
                      obtain ⟨ad124, e124, hx124_0⟩ := Kd.at_int (Kd.R_reads' HO_6.out).2.2 0 p124 q124
                      cases e124
                      have qi124 : (0 < x6_1.length) = True := eq_true (by omega)
                      (try rw [show ((0 : Int)).toNat = 0 from rfl] at hx124_0)
                      (try rw [Addr.add_zero'] at hx124_0)
                      replace p124 := eq_true p124
                      replace q124 := eq_true q124
                      have p125 : 0 ≤ (1 : Int) := (by omega)
                      have q125 : 1 < (x6_1.length : Int) := of_decide_eq_true (by first | (with_reducible assumption) | assumption)
                      obtain ⟨ad125, e125, hx125_0⟩ := Kd.at_int (Kd.R_reads' HO_6.out).2.2 1 p125 q125
                      obtain rfl : ad124 = ad125 := (by injection e125)
                      (try simp only [show (1 : Int).toNat = 1 from rfl, Nat.reduceMul, Nat.reduceEqDiff, Go.Addr.add, ↓reduceIte] at hx125_0)
                      have qi125 : (1 < x6_1.length) = True := eq_true (by omega)
                      (try rw [show ((1 : Int)).toNat = 1 from rfl] at hx125_0)
                      replace p125 := eq_true p125
                      replace q125 := eq_true q125
                      have p126 : 0 ≤ (2 : Int) := (by omega)
                      have q126 : 2 < (x6_1.length : Int) := of_decide_eq_true (by first | (with_reducible assumption) | assumption)
                      obtain ⟨ad126, e126, hx126_0⟩ := Kd.at_int (Kd.R_reads' HO_6.out).2.2 2 p126 q126
                      obtain rfl : ad124 = ad126 := (by injection e126)
                      (try simp only [show (2 : Int).toNat = 2 from rfl, Nat.reduceMul, Nat.reduceEqDiff, Go.Addr.add, ↓reduceIte] at hx126_0)
                      have qi126 : (2 < x6_1.length) = True := eq_true (by omega)
                      (try rw [show ((2 : Int)).toNat = 2 from rfl] at hx126_0)
                      replace p126 := eq_true p126
                      replace q126 := eq_true q126
                      go_wp2
                      repeat (go_quiet (fail); try go_wp2)
                      go_meet
                      case rel => exact ⟨_, (true), (by first | rfl | (simp; done) | (simp [*]; done)), H', ⟨by have := HK1.out; first | omega | exact Nat.le_refl _⟩, ⟨by (with_reducible repeat (first | apply Kd.R_alloc | apply Kd.R_drewN | apply Kd.R_drew)); exact HO_6.out⟩, ⟨by repeat (first | (with_reducible first | exact HB.out | apply below_alloc | apply pw_below_drewN | apply below_drew1) | exact HB.out)⟩⟩
                  · rw [if_neg c27] at H
                    exact absurd H (by simp)
                · rw [if_neg c26] at H
                  exact absurd H (by simp)
              · rw [if_neg c25] at H
                exact absurd H (by simp)
            case rest =>
              clear HC24
              try clear c1
              try clear p1
              try clear q1
              try clear hx1
              try clear qi1
              try clear c2
              try clear p2
              try clear q2
              try clear hx2
              try clear hf2
              try clear c3
              try clear c3b0
              try clear c3b1
              try clear c4
              try clear c4b0
              try clear c4b1
              try clear c5
              try clear p6
              try clear c10
              try clear c10b0
              try clear c11
              try clear c11b0
              try clear p11
              try clear q11
              try clear hx11
              try clear p12
              try clear q12
              try clear hx12
              try clear qi12
              try clear c13
              try clear p13
              try clear q13
              try clear hx13
              try clear qi13
              try clear c14
              try clear c14b0
              try clear c14b1
              try clear c15
              try clear c15b0
              try clear p16
              try clear q16
              try clear hx16
              try clear hf16
              try clear c19
              try clear c19b0
              try clear c19b1
              try clear c20
              try clear c20b0
              try clear p21
              try clear q21
              try clear hx21
              try clear hf21
              try clear c25
              try clear c25b0
              try clear c25b1
              try clear c26
              try clear c26b0
              try clear c26b1
              try clear c27
              try clear c27b0
              try clear c27b1
              try clear c28
              try clear c28b0
              try clear c28b1
              try clear c29
              try clear c29b0
              try clear c29b1
              try clear c30
              try clear c30b0
              try clear c30b1
              try clear c31
              try clear c31b0
              try clear c31b1
              try clear c32
              try clear c32b0
              try clear c32b1
              try clear c33
              try clear c33b0
              try clear c33b1
              try clear hx119_0
              try clear hx124_0
              try clear hx125_0
              try clear hx126_0
              try clear hx127_0
              try clear hx128_0
              try clear hx129_0
              try clear hx130_0
              try clear hx131_0
              try clear hx132_0
              try clear hx16_0
              try clear hx21_0
              try clear p119
              try clear p124
              try clear p125
              try clear p126
              try clear p127
              try clear p128
              try clear p129
              try clear p130
              try clear p131
              try clear p132
              try clear p16
              try clear p2
              try clear p21
              try clear q119
              try clear q124
              try clear q125
              try clear q126
              try clear q127
              try clear q128
              try clear q129
              try clear q130
              try clear q131
              try clear q132
              try clear q16
              try clear q21
              obtain ⟨kq, x89_23, rfl, HA, HJ23, HO_6, HB⟩ := hcut
              cases kq with
              | zero => exact absurd HA.out (by simp [interleavelaw05_EvalOrders.j1])
              | succ kj23 =>
                have H := HA.out
                clear HA
                simp only [interleavelaw05_EvalOrders.j1] at H
                by_cases c38 : x89_23 = true
                · subst c38
                  have H1 : (some false) = some r := by rw [if_pos rfl] at H; exact H
                  clear H
                  have H := H1
                  clear H1
                  obtain rfl := Option.some.inj H
                  go_wp2
                  repeat (go_quiet (fail); try go_wp2)
                  go_ret
                  exact ⟨by first | rfl | (simp [errW_none, errW_some] <;> rfl) | (simp [*, errW_none, errW_some] <;> rfl), by repeat (first | (with_reducible first | exact HB.out | apply below_alloc | apply pw_below_drewN | apply below_drew1) | exact HB.out)⟩
                · replace c38 := Bool.eq_false_iff.mpr c38
                  subst c38
                  have H1 : ((eval_Unary.f 5 a0).bind fun bt133 => ((eval_Unary.f 5 a1).bind fun bt135 => (if 6 < (x6_1.length : Int) then (if (rd x6_1 6) = (wrap64 ((wrap64 (1 - bt133.1)) * (wrap64 (1 - bt135.1)))) then (if 7 < (x6_1.length : Int) then (some ((rd x6_1 7) == (wrap64 (1 - (wrap64 (bt133.1 * bt135.1)))))) else (none)) else (some false)) else (none)))) = some r := by rw [if_neg (show ¬ (false = true) by decide)] at H; exact H
                  clear H
                  have H := H1
                  clear H1
                  replace H := Option.bind_eq_some_iff.mp H
                  obtain ⟨⟨t133, t134⟩, A390, H⟩ := H
                  replace H : ((eval_Unary.f 5 a1).bind fun bt135 => (if 6 < (x6_1.length : Int) then (if (rd x6_1 6) = (wrap64 ((wrap64 (1 - t133)) * (wrap64 (1 - bt135.1)))) then (if 7 < (x6_1.length : Int) then (some ((rd x6_1 7) == (wrap64 (1 - (wrap64 (t133 * bt135.1)))))) else (none)) else (some false)) else (none))) = some r := H
                  have A39 := Aside0.mk A390
                  clear A390
                  replace H := Option.bind_eq_some_iff.mp H
                  obtain ⟨⟨t135, t136⟩, A400, H⟩ := H
                  replace H : (if 6 < (x6_1.length : Int) then (if (rd x6_1 6) = (wrap64 ((wrap64 (1 - t133)) * (wrap64 (1 - t135)))) then (if 7 < (x6_1.length : Int) then (some ((rd x6_1 7) == (wrap64 (1 - (wrap64 (t133 * t135)))))) else (none)) else (some false)) else (none)) = some r := H
                  have A40 := Aside0.mk A400
                  clear A400
                  by_cases c41 : 6 < (x6_1.length : Int)
                  · rw [if_pos c41] at H
                    have c41b0 : decide (6 < (x6_1.length : Int)) = true := decide_eq_true c41
                    have c41b1 : decide (6 < x6_1.length) = true := decide_eq_true (by omega)
                    clear c41
                    by_cases c42 : (rd x6_1 6) = (wrap64 ((wrap64 (1 - t133)) * (wrap64 (1 - t135))))
                    · rw [if_pos c42] at H
                      have c42b0 : ((rd x6_1 6) == (wrap64 ((wrap64 (1 - t133)) * (wrap64 (1 - t135))))) = true := beq_iff_eq.mpr c42
                      have c42b1 : ((rd x6_1 6) != (wrap64 ((wrap64 (1 - t133)) * (wrap64 (1 - t135))))) = false := bne_eq_false_iff_eq.mpr c42
                      clear c42
                      by_cases c43 : 7 < (x6_1.length : Int)
                      · rw [if_pos c43] at H
                        have c43b0 : decide (7 < (x6_1.length : Int)) = true := decide_eq_true c43
                        have c43b1 : decide (7 < x6_1.length) = true := decide_eq_true (by omega)
                        clear c43
                        obtain rfl := Option.some.inj H
                        go_wp2_with (first | (go_at_call 12; (with_reducible refine (eval_Unary.calls 5 a0 t133 t134 _ A39.out).mono ?_); rintro e w' ⟨rfl, ⟨nd, rfl⟩⟩; (try first | exact ⟨rfl, _, World.drewN_drewN _ _ _⟩ | exact ⟨rfl, _, Eq.trans (World.drewN_drewN _ _ _) (congrArg (World.drewN _) (Nat.add_assoc _ _ _))⟩)) | (go_at_call 12; (with_reducible refine (eval_Unary.calls 5 a1 t135 t136 _ A40.out).mono ?_); rintro e w' ⟨rfl, ⟨nd, rfl⟩⟩; (try first | exact ⟨rfl, _, World.drewN_drewN _ _ _⟩ | exact ⟨rfl, _, Eq.trans (World.drewN_drewN _ _ _) (congrArg (World.drewN _) (Nat.add_assoc _ _ _))⟩); obtain ⟨Ao44, co44, eo44⟩ := Kd.R_slice HO_6.out; subst eo44; have p137 : 0 ≤ (6 : Int) := (by omega); have q137 : 6 < (x6_1.length : Int) := of_decide_eq_true (by first | (with_reducible assumption) | assumption); obtain ⟨ad137, e137, hx137_0⟩ := Kd.at_int (Kd.R_reads' HO_6.out).2.2 6 p137 q137; cases e137; (try simp only [show (6 : Int).toNat = 6 from rfl, Nat.reduceMul, Nat.reduceEqDiff, Go.Addr.add, ↓reduceIte] at hx137_0); have qi137 : (6 < x6_1.length) = True := eq_true (by omega); (try rw [show ((6 : Int)).toNat = 6 from rfl] at hx137_0); replace p137 := eq_true p137; replace q137 := eq_true q137; have p138 : 0 ≤ (7 : Int) := (by omega); have q138 : 7 < (x6_1.length : Int) := of_decide_eq_true (by first | (with_reducible assumption) | assumption); obtain ⟨ad138, e138, hx138_0⟩ := Kd.at_int (Kd.R_reads' HO_6.out).2.2 7 p138 q138; obtain rfl : ad137 = ad138 := (by injection e138); (try simp only [show (7 : Int).toNat = 7 from rfl, Nat.reduceMul, Nat.reduceEqDiff, Go.Addr.add, ↓reduceIte] at hx138_0); have qi138 : (7 < x6_1.length) = True := eq_true (by omega); (try rw [show ((7 : Int)).toNat = 7 from rfl] at hx138_0); replace p138 := eq_true p138; replace q138 := eq_true q138))
                        repeat (go_quiet (first | (go_at_call 12; (with_reducible refine (eval_Unary.calls 5 a0 t133 t134 _ A39.out).mono ?_); rintro e w' ⟨rfl, ⟨nd, rfl⟩⟩; (try first | exact ⟨rfl, _, World.drewN_drewN _ _ _⟩ | exact ⟨rfl, _, Eq.trans (World.drewN_drewN _ _ _) (congrArg (World.drewN _) (Nat.add_assoc _ _ _))⟩)) | (go_at_call 12; (with_reducible refine (eval_Unary.calls 5 a1 t135 t136 _ A40.out).mono ?_); rintro e w' ⟨rfl, ⟨nd, rfl⟩⟩; (try first | exact ⟨rfl, _, World.drewN_drewN _ _ _⟩ | exact ⟨rfl, _, Eq.trans (World.drewN_drewN _ _ _) (congrArg (World.drewN _) (Nat.add_assoc _ _ _))⟩); obtain ⟨Ao44, co44, eo44⟩ := Kd.R_slice HO_6.out; subst eo44; have p137 : 0 ≤ (6 : Int) := (by omega); have q137 : 6 < (x6_1.length : Int) := of_decide_eq_true (by first | (with_reducible assumption) | assumption); obtain ⟨ad137, e137, hx137_0⟩ := Kd.at_int (Kd.R_reads' HO_6.out).2.2 6 p137 q137; cases e137; (try simp only [show (6 : Int).toNat = 6 from rfl, Nat.reduceMul, Nat.reduceEqDiff, Go.Addr.add, ↓reduceIte] at hx137_0); have qi137 : (6 < x6_1.length) = True := eq_true (by omega); (try rw [show ((6 : Int)).toNat = 6 from rfl] at hx137_0); replace p137 := eq_true p137; replace q137 := eq_true q137; have p138 : 0 ≤ (7 : Int) := (by omega); have q138 : 7 < (x6_1.length : Int) := of_decide_eq_true (by first | (with_reducible assumption) | assumption); obtain ⟨ad138, e138, hx138_0⟩ := Kd.at_int (Kd.R_reads' HO_6.out).2.2 7 p138 q138; obtain rfl : ad137 = ad138 := (by injection e138); (try simp only [show (7 : Int).toNat = 7 from rfl, Nat.reduceMul, Nat.reduceEqDiff, Go.Addr.add, ↓reduceIte] at hx138_0); have qi138 : (7 < x6_1.length) = True := eq_true (by omega); (try rw [show ((7 : Int)).toNat = 7 from rfl] at hx138_0); replace p138 := eq_true p138; replace q138 := eq_true q138)); try go_wp2_with (first | (go_at_call 12; (with_reducible refine (eval_Unary.calls 5 a0 t133 t134 _ A39.out).mono ?_); rintro e w' ⟨rfl, ⟨nd, rfl⟩⟩; (try first | exact ⟨rfl, _, World.drewN_drewN _ _ _⟩ | exact ⟨rfl, _, Eq.trans (World.drewN_drewN _ _ _) (congrArg (World.drewN _) (Nat.add_assoc _ _ _))⟩)) | (go_at_call 12; (with_reducible refine (eval_Unary.calls 5 a1 t135 t136 _ A40.out).mono ?_); rintro e w' ⟨rfl, ⟨nd, rfl⟩⟩; (try first | exact ⟨rfl, _, World.drewN_drewN _ _ _⟩ | exact ⟨rfl, _, Eq.trans (World.drewN_drewN _ _ _) (congrArg (World.drewN _) (Nat.add_assoc _ _ _))⟩); obtain ⟨Ao44, co44, eo44⟩ := Kd.R_slice HO_6.out; subst eo44; have p137 : 0 ≤ (6 : Int) := (by omega); have q137 : 6 < (x6_1.length : Int) := of_decide_eq_true (by first | (with_reducible assumption) | assumption); obtain ⟨ad137, e137, hx137_0⟩ := Kd.at_int (Kd.R_reads' HO_6.out).2.2 6 p137 q137; cases e137; (try simp only [show (6 : Int).toNat = 6 from rfl, Nat.reduceMul, Nat.reduceEqDiff, Go.Addr.add, ↓reduceIte] at hx137_0); have qi137 : (6 < x6_1.length) = True := eq_true (by omega); (try rw [show ((6 : Int)).toNat = 6 from rfl] at hx137_0); replace p137 := eq_true p137; replace q137 := eq_true q137; have p138 : 0 ≤ (7 : Int) := (by omega); have q138 : 7 < (x6_1.length : Int) := of_decide_eq_true (by first | (with_reducible assumption) | assumption); obtain ⟨ad138, e138, hx138_0⟩ := Kd.at_int (Kd.R_reads' HO_6.out).2.2 7 p138 q138; obtain rfl : ad137 = ad138 := (by injection e138); (try simp only [show (7 : Int).toNat = 7 from rfl, Nat.reduceMul, Nat.reduceEqDiff, Go.Addr.add, ↓reduceIte] at hx138_0); have qi138 : (7 < x6_1.length) = True := eq_true (by omega); (try rw [show ((7 : Int)).toNat = 7 from rfl] at hx138_0); replace p138 := eq_true p138; replace q138 := eq_true q138)))
                        go_ret
                        exact ⟨by first | rfl | (simp [errW_none, errW_some] <;> rfl) | (simp [*, errW_none, errW_some] <;> rfl), by repeat (first | (with_reducible first | exact HB.out | apply below_alloc | apply pw_below_drewN | apply below_drew1) | exact HB.out)⟩
                      · rw [if_neg c43] at H
                        exact absurd H (by simp)
                    · rw [if_neg c42] at H
                      have c42b0 : ((rd x6_1 6) == (wrap64 ((wrap64 (1 - t133)) * (wrap64 (1 - t135))))) = false := beq_eq_false_iff_ne.mpr c42
                      have c42b1 : ((rd x6_1 6) != (wrap64 ((wrap64 (1 - t133)) * (wrap64 (1 - t135))))) = true := bne_iff_ne.mpr c42
                      obtain rfl := Option.some.inj H
                      go_wp2_with (first | (go_at_call 12; (with_reducible refine (eval_Unary.calls 5 a0 t133 t134 _ A39.out).mono ?_); rintro e w' ⟨rfl, ⟨nd, rfl⟩⟩; (try first | exact ⟨rfl, _, World.drewN_drewN _ _ _⟩ | exact ⟨rfl, _, Eq.trans (World.drewN_drewN _ _ _) (congrArg (World.drewN _) (Nat.add_assoc _ _ _))⟩)) | (go_at_call 12; (with_reducible refine (eval_Unary.calls 5 a1 t135 t136 _ A40.out).mono ?_); rintro e w' ⟨rfl, ⟨nd, rfl⟩⟩; (try first | exact ⟨rfl, _, World.drewN_drewN _ _ _⟩ | exact ⟨rfl, _, Eq.trans (World.drewN_drewN _ _ _) (congrArg (World.drewN _) (Nat.add_assoc _ _ _))⟩); obtain ⟨Ao45, co45, eo45⟩ := Kd.R_slice HO_6.out; subst eo45; have p137 : 0 ≤ (6 : Int) := (by omega); have q137 : 6 < (x6_1.length : Int) := of_decide_eq_true (by first | (with_reducible assumption) | assumption); obtain ⟨ad137, e137, hx137_0⟩ := Kd.at_int (Kd.R_reads' HO_6.out).2.2 6 p137 q137; cases e137; (try simp only [show (6 : Int).toNat = 6 from rfl, Nat.reduceMul, Nat.reduceEqDiff, Go.Addr.add, ↓reduceIte] at hx137_0); have qi137 : (6 < x6_1.length) = True := eq_true (by omega); (try rw [show ((6 : Int)).toNat = 6 from rfl] at hx137_0); replace p137 := eq_true p137; replace q137 := eq_true q137))
                      repeat (go_quiet (first | (go_at_call 12; (with_reducible refine (eval_Unary.calls 5 a0 t133 t134 _ A39.out).mono ?_); rintro e w' ⟨rfl, ⟨nd, rfl⟩⟩; (try first | exact ⟨rfl, _, World.drewN_drewN _ _ _⟩ | exact ⟨rfl, _, Eq.trans (World.drewN_drewN _ _ _) (congrArg (World.drewN _) (Nat.add_assoc _ _ _))⟩)) | (go_at_call 12; (with_reducible refine (eval_Unary.calls 5 a1 t135 t136 _ A40.out).mono ?_); rintro e w' ⟨rfl, ⟨nd, rfl⟩⟩; (try first | exact ⟨rfl, _, World.drewN_drewN _ _ _⟩ | exact ⟨rfl, _, Eq.trans (World.drewN_drewN _ _ _) (congrArg (World.drewN _) (Nat.add_assoc _ _ _))⟩); obtain ⟨Ao45, co45, eo45⟩ := Kd.R_slice HO_6.out; subst eo45; have p137 : 0 ≤ (6 : Int) := (by omega); have q137 : 6 < (x6_1.length : Int) := of_decide_eq_true (by first | (with_reducible assumption) | assumption); obtain ⟨ad137, e137, hx137_0⟩ := Kd.at_int (Kd.R_reads' HO_6.out).2.2 6 p137 q137; cases e137; (try simp only [show (6 : Int).toNat = 6 from rfl, Nat.reduceMul, Nat.reduceEqDiff, Go.Addr.add, ↓reduceIte] at hx137_0); have qi137 : (6 < x6_1.length) = True := eq_true (by omega); (try rw [show ((6 : Int)).toNat = 6 from rfl] at hx137_0); replace p137 := eq_true p137; replace q137 := eq_true q137)); try go_wp2_with (first | (go_at_call 12; (with_reducible refine (eval_Unary.calls 5 a0 t133 t134 _ A39.out).mono ?_); rintro e w' ⟨rfl, ⟨nd, rfl⟩⟩; (try first | exact ⟨rfl, _, World.drewN_drewN _ _ _⟩ | exact ⟨rfl, _, Eq.trans (World.drewN_drewN _ _ _) (congrArg (World.drewN _) (Nat.add_assoc _ _ _))⟩)) | (go_at_call 12; (with_reducible refine (eval_Unary.calls 5 a1 t135 t136 _ A40.out).mono ?_); rintro e w' ⟨rfl, ⟨nd, rfl⟩⟩; (try first | exact ⟨rfl, _, World.drewN_drewN _ _ _⟩ | exact ⟨rfl, _, Eq.trans (World.drewN_drewN _ _ _) (congrArg (World.drewN _) (Nat.add_assoc _ _ _))⟩); obtain ⟨Ao45, co45, eo45⟩ := Kd.R_slice HO_6.out; subst eo45; have p137 : 0 ≤ (6 : Int) := (by omega); have q137 : 6 < (x6_1.length : Int) := of_decide_eq_true (by first | (with_reducible assumption) | assumption); obtain ⟨ad137, e137, hx137_0⟩ := Kd.at_int (Kd.R_reads' HO_6.out).2.2 6 p137 q137; cases e137; (try simp only [show (6 : Int).toNat = 6 from rfl, Nat.reduceMul, Nat.reduceEqDiff, Go.Addr.add, ↓reduceIte] at hx137_0); have qi137 : (6 < x6_1.length) = True := eq_true (by omega); (try rw [show ((6 : Int)).toNat = 6 from rfl] at hx137_0); replace p137 := eq_true p137; replace q137 := eq_true q137)))
                      go_ret
                      exact ⟨by first | rfl | (simp [errW_none, errW_some] <;> rfl) | (simp [*, errW_none, errW_some] <;> rfl), by repeat (first | (with_reducible first | exact HB.out | apply below_alloc | apply pw_below_drewN | apply below_drew1) | exact HB.out)⟩
                  · rw [if_neg c41] at H
                    exact absurd H (by simp)
    · rw [if_neg c4] at H
      exact absurd H (by simp)
  · rw [if_neg c3] at H
    exact absurd H (by simp)

/-- THE ONE PURE STATEMENT of interleavelaw05_EvalOrders: yours. -/
def interleavelaw05_EvalOrders.Pure : Prop := ∀ (a0 : Int) (a1 : Int), (Lit.int .i64 a0).wf = true → (Lit.int .i64 a1).wf = true → ∃ k, interleavelaw05_EvalOrders.f k a0 a1 = some true
theorem interleavelaw05_EvalOrders.walk (P : interleavelaw05_EvalOrders.Pure) (a0 : Int) (a1 : Int) (w : World) (w0 : (Lit.int .i64 a0).wf = true) (w1 : (Lit.int .i64 a1).wf = true) :
    Calls Try.prog 5 #[.int .i64 a0, .int .i64 a1] w fun e w' => e = .returned (.bool true) ∧ Below w.heap.size w w' := by
  obtain ⟨k, h⟩ := P a0 a1 w0 w1
  refine (interleavelaw05_EvalOrders.calls k a0 a1 true w h).mono ?_
  rintro e w' ⟨rfl, hd⟩
  exact ⟨rfl, hd⟩

end Go.Proofs.Ytgoefoilghjfhaa.PEvalOrders
