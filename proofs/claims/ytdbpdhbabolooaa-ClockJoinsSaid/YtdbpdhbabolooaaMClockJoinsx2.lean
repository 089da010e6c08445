-- Written by a program of this session (wip/myprint in its repo: the kit's print with additions of its own).
import Derived.Test.YtdbpdhbabolooaaMClockJoinsx0
import Derived.Test.YtdbpdhbabolooaaMClockJoinsx1
namespace Go.Proofs.Ytdbpdhbabolooaa.MClockJoins
open Go.RowKit Go.Proofs.YtdbpdhbabolooaaW.PrintWords Go.Proofs.YtdbpdhbabolooaaW.PrintLast Go.Proofs.YtdbpdhbabolooaaW.PrintMore
attribute [local go_sem] max2_int min2_int max_two min_two max_three min_three max_four min_four   -- for this text's walks alone
set_option linter.unusedVariables false
set_option linter.unusedSimpArgs false

/-! ### interleaveref22_Join: function 21 -/
def interleaveref22_Join.l0 : Nat → List Int → List Int → List Int → Int → Int → Option (List Int)
  | 0, _, _, _, _, _ => none
  | k + 1, x0, x1, x5, x14, x15 => if x15 < x14 then ((interleaveref22_At.f x0 x15).bind fun t147 => ((interleaveref22_At.f x1 x15).bind fun t148 => (if 0 ≤ x15 then (if x15 < (x5.length : Int) then (interleaveref22_Join.l0 k x0 x1 (x5.set (x15 : Int).toNat (mx t147 t148)) x14 (wrap64 (x15 + 1))) else (none)) else (none)))) else (some x5)
def interleaveref22_Join.f (k : Nat) (l0 : List Int) (l1 : List Int) : Option (List Int) := if 0 ≤ (mx (l0.length : Int) (l1.length : Int)) then (if (mx (l0.length : Int) (l1.length : Int) : Int).toNat ≤ 35184372088832 then ((some (List.replicate (mx (l0.length : Int) (l1.length : Int) : Int).toNat 0 : List Int)).bind fun y144 => (interleaveref22_Join.l0 k l0 l1 y144 (y144.length : Int) 0)) else (none)) else (none)
theorem interleaveref22_Join.mono_l : ∀ k, (∀ y0 y1 y2 y3 y4, LeO (interleaveref22_Join.l0 k y0 y1 y2 y3 y4) (interleaveref22_Join.l0 (k + 1) y0 y1 y2 y3 y4))
  | 0 => fun _ _ _ _ _ r h => by simp [interleaveref22_Join.l0] at h
  | k + 1 => by
    have ih0 := interleaveref22_Join.mono_l k
    · intro y0 y1 y2 y3 y4
      unfold interleaveref22_Join.l0
      repeat' first
      | (with_reducible exact ih0 _ _ _ _ _)
      | (with_reducible exact LeO.refl _)
      | (with_reducible exact LeO.none _)
      | (with_reducible refine LeO.ite ?_ ?_)
      | (with_reducible refine LeO.bind ?_ (fun _ => ?_))
      | exact ih0 _ _ _ _ _
      | exact LeO.none _
      | refine LeO.ite ?_ ?_
      | refine LeO.bind ?_ (fun _ => ?_)
theorem interleaveref22_Join.mono : ∀ a0 a1 k, LeO (interleaveref22_Join.f k a0 a1) (interleaveref22_Join.f (k + 1) a0 a1) := by
  intro a0 a1 k
  have ih0 := interleaveref22_Join.mono_l k
  unfold interleaveref22_Join.f
  repeat' first
      | (with_reducible exact ih0 _ _ _ _ _)
      | (with_reducible exact LeO.refl _)
      | (with_reducible exact LeO.none _)
      | (with_reducible refine LeO.ite ?_ ?_)
      | (with_reducible refine LeO.bind ?_ (fun _ => ?_))
      | exact ih0 _ _ _ _ _
      | exact LeO.none _
      | refine LeO.ite ?_ ?_
      | refine LeO.bind ?_ (fun _ => ?_)
set_option maxHeartbeats 8000000 in
set_option maxRecDepth 100000 in
theorem interleaveref22_Join.calls (k : Nat) (A0 : Option Addr) (c0 : Nat) (l0 : List Int) (A1 : Option Addr) (c1 : Nat) (l1 : List Int) (r : List Int) (w : World) (hr0 : Kd.C (Kd.int .i64) w A0 l0.length l0) (hc0 : l0.length ≤ c0) (hr1 : Kd.C (Kd.int .i64) w A1 l1.length l1) (hc1 : l1.length ≤ c1) (h : interleaveref22_Join.f k l0 l1 = some r) :
    Calls Try.prog 21 #[.slice A0 l0.length c0, .slice A1 l1.length c1] w fun e w' => ∃ v0_ : Value, e = .returned (v0_) ∧ Kd.R (Kd.int .i64) 3 w' w.heap.size (fun _ => True) v0_ r ∧ Below w.heap.size w w' := by
  have HR0 := Aside0.mk hr0
  have HC0 := Aside0.mk hc0
  clear hr0 hc0
  have HR1 := Aside0.mk hr1
  have HC1 := Aside0.mk hc1
  clear hr1 hc1
  have HB := Aside0.mk (Below.refl w.heap.size w)
  have H : (if 0 ≤ (mx (l0.length : Int) (l1.length : Int)) then (if (mx (l0.length : Int) (l1.length : Int) : Int).toNat ≤ 35184372088832 then ((some (List.replicate (mx (l0.length : Int) (l1.length : Int) : Int).toNat 0 : List Int)).bind fun y144 => (interleaveref22_Join.l0 k l0 l1 y144 (y144.length : Int) 0)) else (none)) else (none)) = some r := h
  clear h
  obtain ⟨ji3, hji3⟩ : ∃ j_ : Int, (mx (l0.length : Int) (l1.length : Int)) = j_ := ⟨_, rfl⟩
  replace H : (if 0 ≤ (ji3) then (if (ji3 : Int).toNat ≤ 35184372088832 then ((some (List.replicate (ji3 : Int).toNat 0 : List Int)).bind fun y144 => (interleaveref22_Join.l0 k l0 l1 y144 (y144.length : Int) 0)) else (none)) else (none)) = some r := by first | (rw [hji3] at H; exact H) | (simp only [hji3] at H ⊢; exact H)
  (try (have hji3l : 0 ≤ ji3 := by (rw [← hji3]; unfold mx; (repeat' split) <;> omega)))
  (try (have hji3m : 0 ≤ ji3 := by omega))
  have hji3_ : (if (l0.length : Int) < (l1.length : Int) then (l1.length : Int) else (l0.length : Int)) = ji3 := hji3
  have hji3n_ : (if l0.length < l1.length then (l1.length : Int) else (l0.length : Int)) = ji3 := by rw [← hji3]; unfold mx; simp only [Int.ofNat_lt]
  by_cases c4 : 0 ≤ (ji3)
  · rw [if_pos c4] at H
    have c4b0 := eq_true c4
    have c4b1 : decide (0 ≤ (ji3)) = true := decide_eq_true c4
    clear c4
    by_cases c5 : (ji3 : Int).toNat ≤ 35184372088832
    · rw [if_pos c5] at H
      have c5b0 := eq_true c5
      have c5b1 : decide ((ji3 : Int).toNat ≤ 35184372088832) = true := decide_eq_true c5
      clear c5
      obtain ⟨y144, hy144⟩ : ∃ y_ : List Int, y_ = (List.replicate (ji3 : Int).toNat 0) := ⟨_, rfl⟩
      replace H : (interleaveref22_Join.l0 k l0 l1 y144 (y144.length : Int) 0) = some r := by first | (rw [hy144]; with_reducible exact H) | (have H2_ := (Option.bind_some _ _).symm.trans H; rw [hy144]; with_reducible exact H2_) | (have H2_ := (Option.bind_some _ _).symm.trans H; with_reducible exact H2_) | with_reducible exact H | (rw [hy144]; exact H) | exact H
      have Ny144 := Aside0.mk hy144
      clear hy144
      have H' := Aside0.mk H
      clear H
      go_enter Try.func21, Try.ntmps21
      go_wp2_with (first | ((with_reducible refine gate_dst (N := 12) rfl ?_); refine Kd.R_make (Kd.int .i64) _ 3 rfl (N := 12) rfl 22 _ _ rfl ji3 rfl rfl Try.underlying22 (.int .i64 0) 8 info3 rfl (by decide) (by omega) 0 (ok := fun _ => True) (okp := fun _ => True) rfl (fun _ hk => hk) trivial (of_decide_eq_true (by first | (with_reducible assumption) | assumption)) (Nat.le_trans (Nat.mul_le_mul_right _ (of_decide_eq_true (by first | (with_reducible assumption) | assumption) : ji3.toNat ≤ 35184372088832)) (by omega)) (Below.refl _ _) (Nat.le_refl _) ?_; intro v145 w6 ho7 hb hg_ hnew_; clear hg_ hnew_; (first | rw [← Ny144.out] at ho7 | (simp only [Int.reduceToNat] at ho7; rw [← Ny144.out] at ho7)); have n0_ := Aside0.mk (Kd.R_lower ho7 (below_size (by repeat (first | (with_reducible first | exact HB.out | apply below_alloc | apply pw_below_drewN | apply below_drew1) | exact HB.out)))); have n1_ := Aside0.mk (below_step (by repeat (first | (with_reducible first | exact HB.out | apply below_alloc | apply pw_below_drewN | apply below_drew1) | exact HB.out)) hb); clear HB; have HO146 := n0_; have HB := n1_; clear n0_ n1_; clear hb ho7; obtain ⟨Ao8, co8, eo8⟩ := Kd.R_slice HO146.out; subst eo8))
      go_loopg [15] k (fun kq v15 w' => ∃ (x5_1 : List Int) (x15_1 : Int), v15 = .int .i64 x15_1 ∧ Aside0 (interleaveref22_Join.l0 kq l0 l1 x5_1 (y144.length : Int) x15_1 = some r) ∧ Aside0 (kq ≤ k) ∧ Aside0 (Kd.R (Kd.int .i64) 3 w' w.heap.size (fun _ => True) (.slice Ao8 y144.length co8) x5_1) ∧ Aside0 (Below w.heap.size w w'))
      case atStart => exact ⟨(y144), (0), (by first | rfl | (simp; done) | (simp [*]; done)), H', ⟨Nat.le_refl _⟩, ⟨by (with_reducible repeat (first | apply Kd.R_alloc | apply Kd.R_drewN | apply Kd.R_drew)); exact HO146.out⟩, ⟨by repeat (first | (with_reducible first | exact HB.out | apply below_alloc | apply pw_below_drewN | apply below_drew1) | exact HB.out)⟩⟩
      case round =>
        clear H'
        try clear c1
        try clear c2
        try clear p2
        try clear c4
        try clear c4b0
        try clear c4b1
        try clear c5
        try clear c5b0
        try clear c5b1
        obtain ⟨x5_1, x15_1, rfl, HA, HK1, HO_5, HB⟩ := hrel
        have hl5_1 := (Kd.R_reads' HO_5.out).1
        rw [hl5_1] at HO_5
        (try simp only [hl5_1])
        cases gk with
        | zero => exact absurd HA.out (by simp [interleaveref22_Join.l0])
        | succ k1 =>
          have H := HA.out
          clear HA
          simp only [interleaveref22_Join.l0] at H
          by_cases c9 : x15_1 < (y144.length : Int)
          · rw [if_pos c9] at H
            have c9b0 : decide (x15_1 < (y144.length : Int)) = true := decide_eq_true c9
            (try simp only [hl5_1] at c9b0)
            clear c9
            replace H := Option.bind_eq_some_iff.mp H
            obtain ⟨t147, A100, H⟩ := H
            replace H : ((interleaveref22_At.f l1 x15_1).bind fun t148 => (if 0 ≤ x15_1 then (if x15_1 < (x5_1.length : Int) then (interleaveref22_Join.l0 k1 l0 l1 (x5_1.set (x15_1 : Int).toNat (mx t147 t148)) (y144.length : Int) (wrap64 (x15_1 + 1))) else (none)) else (none))) = some r := H
            have A10 := Aside0.mk A100
            clear A100
            replace H := Option.bind_eq_some_iff.mp H
            obtain ⟨t148, A110, H⟩ := H
            replace H : (if 0 ≤ x15_1 then (if x15_1 < (x5_1.length : Int) then (interleaveref22_Join.l0 k1 l0 l1 (x5_1.set (x15_1 : Int).toNat (mx t147 t148)) (y144.length : Int) (wrap64 (x15_1 + 1))) else (none)) else (none)) = some r := H
            have A11 := Aside0.mk A110
            clear A110
            obtain ⟨ji12, hji12⟩ : ∃ j_ : Int, (mx t147 t148) = j_ := ⟨_, rfl⟩
            replace H : (if 0 ≤ x15_1 then (if x15_1 < (x5_1.length : Int) then (interleaveref22_Join.l0 k1 l0 l1 (x5_1.set (x15_1 : Int).toNat (ji12)) (y144.length : Int) (wrap64 (x15_1 + 1))) else (none)) else (none)) = some r := by first | (rw [hji12] at H; exact H) | (simp only [hji12] at H ⊢; exact H)
            (try rw [hji12] at A10)
            (try rw [hji12] at A11)
            have hji12_ : (if t147 < t148 then t148 else t147) = ji12 := hji12
            by_cases c13 : 0 ≤ x15_1
            · rw [if_pos c13] at H
              have c13b0 : decide (0 ≤ x15_1) = true := decide_eq_true c13
              clear c13
              by_cases c14 : x15_1 < (x5_1.length : Int)
              · rw [if_pos c14] at H
                have c14b0 : decide (x15_1 < (x5_1.length : Int)) = true := decide_eq_true c14
                (try simp only [hl5_1] at c14b0)
                clear c14
                obtain ⟨y149, hy149⟩ : ∃ y_ : List Int, y_ = (x5_1.set (x15_1 : Int).toNat (ji12)) := ⟨_, rfl⟩
                replace H : (interleaveref22_Join.l0 k1 l0 l1 y149 (y144.length : Int) (wrap64 (x15_1 + 1))) = some r := by first | (rw [hy149]; with_reducible exact H) | (have H2_ := (Option.bind_some _ _).symm.trans H; rw [hy149]; with_reducible exact H2_) | (have H2_ := (Option.bind_some _ _).symm.trans H; with_reducible exact H2_) | with_reducible exact H | (rw [hy149]; exact H) | exact H
                have Ny149 := Aside0.mk hy149
                clear hy149
                have H' := Aside0.mk H
                clear H
                go_wp2_with (first | ((with_reducible refine gate_callee (f := 17) rfl ?_); refine goesL_ (some 22) rfl rfl Try.func17 (by kernel_rfl) rfl #[.slice A0 l0.length c0, .int .i64 x15_1] rfl (by (try simp only [List.map_toArray, List.map_cons, List.map_nil]); first | done | rfl | (simp only [List.length_drop, List.length_take]; rfl)) ?_; (with_reducible refine (interleaveref22_At.calls _ _ l0 x15_1 t147 _ ?side1 ?side2 A10.out).mono ?_); (case side1 => repeat (first | exact (Kd.C_below HR0.out HB.out) | (with_reducible refine Kd.C_alloc ?_ _) | (with_reducible refine Kd.C_drewN ?_ _) | (with_reducible refine Kd.C_drew ?_))); (case side2 => exact HC0.out); rintro e w' ⟨rfl, ⟨nd, rfl⟩⟩; refine ⟨_, rfl, ?_⟩; (try (rw [drewN_self wr]; generalize hq_ : World.drewN wr _ = wr; have n0_ : Aside0 (Kd.R (Kd.int .i64) 3 wr w.heap.size (fun _ => True) (.slice Ao8 x5_1.length co8) x5_1) := ⟨by rw [← hq_]; exact (by (with_reducible repeat (first | apply Kd.R_alloc | apply Kd.R_drewN | apply Kd.R_drew)); exact HO_5.out)⟩; have n1_ : Aside0 (Below w.heap.size w wr) := ⟨by rw [← hq_]; exact (by repeat (first | (with_reducible first | exact HB.out | apply below_alloc | apply pw_below_drewN | apply below_drew1) | exact HB.out))⟩; clear HO_5 HB hq_; have HO_5 := n0_; have HB := n1_; clear n0_ n1_))) | ((with_reducible refine gate_callee (f := 17) rfl ?_); refine goesL_ (some 25) rfl rfl Try.func17 (by kernel_rfl) rfl #[.slice A1 l1.length c1, .int .i64 x15_1] rfl (by (try simp only [List.map_toArray, List.map_cons, List.map_nil]); first | done | rfl | (simp only [List.length_drop, List.length_take]; rfl)) ?_; (with_reducible refine (interleaveref22_At.calls _ _ l1 x15_1 t148 _ ?side1 ?side2 A11.out).mono ?_); (case side1 => repeat (first | exact (Kd.C_below HR1.out HB.out) | (with_reducible refine Kd.C_alloc ?_ _) | (with_reducible refine Kd.C_drewN ?_ _) | (with_reducible refine Kd.C_drew ?_))); (case side2 => exact HC1.out); rintro e w' ⟨rfl, ⟨nd, rfl⟩⟩; refine ⟨_, rfl, ?_⟩; (try (rw [drewN_self wr]; generalize hq_ : World.drewN wr _ = wr; have n0_ : Aside0 (Kd.R (Kd.int .i64) 3 wr w.heap.size (fun _ => True) (.slice Ao8 x5_1.length co8) x5_1) := ⟨by rw [← hq_]; exact (by (with_reducible repeat (first | apply Kd.R_alloc | apply Kd.R_drewN | apply Kd.R_drew)); exact HO_5.out)⟩; have n1_ : Aside0 (Below w.heap.size w wr) := ⟨by rw [← hq_]; exact (by repeat (first | (with_reducible first | exact HB.out | apply below_alloc | apply pw_below_drewN | apply below_drew1) | exact HB.out))⟩; clear HO_5 HB hq_; have HO_5 := n0_; have HB := n1_; clear n0_ n1_)); have p15 : 0 ≤ (x15_1 : Int) := of_decide_eq_true (by first | (with_reducible assumption) | assumption); have q15 : (x15_1 : Int) < ((x5_1.length : Int) : Int) := of_decide_eq_true (by first | (with_reducible assumption) | assumption); obtain ⟨go15, co15, eo15, gb15, gl15, cl15, HG15⟩ := Kd.R_form HO_5.out (by omega); (first | cases eo15 | (injection eo15 with ea_ en_ ec_; (first | subst ea_ | (injection ea_ with ea_; subst ea_)); subst ec_; clear en_)); have GB15 := Aside0.mk gb15; have GG15 := Aside0.mk HG15; clear gb15 gl15 HG15; obtain ⟨hx15_0, hf15_0⟩ := Kd.R_celln 0 HO_5.out (x15_1 : Int) p15 q15; replace p15 := eq_true p15; replace q15 := eq_true q15; obtain ⟨hy16_, hz16_⟩ := Kd.R_celln 0 HO_5.out (x15_1 : Int) (of_decide_eq_true (by first | (with_reducible assumption) | assumption)) (of_decide_eq_true (by first | (with_reducible assumption) | assumption)); have HP16 := Kd.R_putg HO_5.out (x15_1 : Int) ji12) | ((with_reducible refine gate_store (t := 3) (p := 27) rfl ?_); refine store_event (t := 3) (p := 27) (v := ?vo_w17) (w1 := (wr.setCell ⟨go15, (x15_1 : Int).toNat, none⟩ (.int .i64 ji12))) ?hg ?ho ?hn ?hr ?_; (case ho => rfl); (case hg => rfl); (case hn => rfl); (case hr => first | (go_simp; done) | (go_simp; rfl)); intro w17 hw; have hg : wr.grownBy w17 (some go15) := (by rw [hw]; exact HP16.2); have hp_ : Kd.R (Kd.int .i64) 3 w17 w.heap.size (fun _ => True) (.slice (some ⟨go15, 0, none⟩) x5_1.length co8) y149 := (by rw [hw, Ny149.out]; exact HP16.1); clear HP16; have n0_ := Aside0.mk (hp_); have n1_ := Aside0.mk ((by rw [hw]; exact below_set (HB.out) GB15.out : Below w.heap.size w w17)); clear HO_5; clear HB; have HO_5 := n0_; have HB := n1_; clear n0_ n1_; clear hg hw hp_))
                (try simp only [← hl5_1])
                go_roundg k1
                case measure => have := HK1.out; omega
                case rel => exact ⟨(y149), (wrap64 (x15_1 + 1)), (by first | rfl | (simp; done) | (simp [*]; done)), H', ⟨by have := HK1.out; omega⟩, ⟨by (try simp only [hl5_1]); (with_reducible repeat (first | apply Kd.R_alloc | apply Kd.R_drewN | apply Kd.R_drew)); exact HO_5.out⟩, ⟨by repeat (first | (with_reducible first | exact HB.out | apply below_alloc | apply pw_below_drewN | apply below_drew1) | exact HB.out)⟩⟩
              · rw [if_neg c14] at H
                exact absurd H (by simp)
            · rw [if_neg c13] at H
              exact absurd H (by simp)
          · rw [if_neg c9] at H
            have c9b0 : decide (x15_1 < (y144.length : Int)) = false := decide_eq_false c9
            (try simp only [hl5_1] at c9b0)
            clear c9
            obtain rfl := Option.some.inj H
            go_wp2
            go_ret
            exact ⟨_, by first | rfl | (simp [errW_none, errW_some] <;> rfl) | (simp only [← hji3]; first | rfl | (simp [errW_none, errW_some] <;> rfl)) | (simp [*, errW_none, errW_some] <;> rfl), by (with_reducible repeat (first | apply Kd.R_alloc | apply Kd.R_drewN | apply Kd.R_drew)); exact HO_5.out, by repeat (first | (with_reducible first | exact HB.out | apply below_alloc | apply pw_below_drewN | apply below_drew1) | exact HB.out)⟩
    · rw [if_neg c5] at H
      exact absurd H (by simp)
  · rw [if_neg c4] at H
    exact absurd H (by simp)

/-! ### interleavelaw22_kept: function 22 -/
theorem interleavelaw22_kept.run_cut (l0 : List Int) (ad : Addr) (c : Nat) (hl : l0.length ≤ 60) (hc : l0.length + 1 ≤ c) (W : World) : (Instr.slice 22 (.slice (some ad) l0.length c) none (some (.int .i64 ((l0.length : Int) + 1))) none).run Try.prog W = .ok (.slice (some ad) (l0.length + 1) c) W := by
  obtain ⟨i0, hi, hzz⟩ := Option.map_eq_some_iff.1 info3
  simp only [Prod.mk.injEq] at hzz
  obtain ⟨hz, hs, hby⟩ := hzz
  have hel : Try.prog.elem 22 = 3 := by simp [Program.elem, Try.underlying22]
  have hu : Try.prog.underlying 22 = some (.slice (Try.prog.elem 22)) := by rw [hel]; exact Try.underlying22
  rw [run_slice_h W 22 (some ad) l0.length c hu .i64 ((l0.length : Int) + 1) (by omega) (by omega), hel]
  have ha : ((some ad).map fun x => x.add 0) = some ad := by simp [Addr.add]
  simp [sizeOf, typeInfo, hi, hs, sliced, Result.andThen, ha]
set_option maxHeartbeats 8000000 in
set_option maxRecDepth 100000 in
theorem interleavelaw22_kept.calls (k : Nat) (A0 : Option Addr) (c0 : Nat) (l0 : List Int) (A1 : Option Addr) (c1 : Nat) (l1 : List Int) (w : World) (hr0 : Kd.C (Kd.int .i64) w A0 (l0.length + 1) (l0 ++ [77])) (hc0 : l0.length + 1 ≤ c0) (hl : l0.length ≤ 60) (hr1 : Kd.C (Kd.int .i64) w A1 l1.length l1) (hc1 : l1.length ≤ c1) (h : interleaveref22_Equal.f k l0 l1 = some true) :
    Calls Try.prog 22 #[.slice A0 l0.length c0, .slice A1 l1.length c1] w fun e w' => e = .returned (.bool true) ∧ Drawn0 w w' := by
  have hr0' : Kd.C (Kd.int .i64) w A0 l0.length l0 := by
    have h2 := Kd.C_take (m := l0.length) (xs := l0 ++ [77]) (k := Kd.int .i64) (w := w) (A := A0) (by simpa using hr0) (by simp)
    simpa using h2
  obtain ⟨ad, rfl, hx⟩ := Kd.at_int hr0 (l0.length : Int) (by omega) (by omega)
  have hv : rd (l0 ++ [77]) (l0.length : Int) = 77 := by unfold rd; simp
  rw [hv] at hx
  have HR0 := Aside0.mk hr0'
  have HR1 := Aside0.mk hr1
  have HH := Aside0.mk h
  have hcut := interleavelaw22_kept.run_cut l0 ad c0 hl hc0
  have hc0' : l0.length ≤ c0 := by omega
  have hx' : w.cell? (ad.add l0.length) = some (.int .i64 77) := by simpa using hx
  have HC0 := Aside0.mk hc0'
  have HC1 := Aside0.mk hc1
  clear hr0 hr0' hr1 h hx hv hc0 hc0' hc1
  go_enter Try.func22, Try.ntmps22
  go_wp2_with fail
  refine (interleaveref22_Equal.calls k _ _ l0 _ _ l1 true _ HR0.out HC0.out HR1.out HC1.out HH.out).mono ?_
  rintro e w' ⟨rfl, ⟨nd, rfl⟩⟩
  go_wp2
  go_ret
  exact ⟨rfl, ⟨_, rfl⟩⟩

/-! ### interleavelaw22_ClockJoins: function 4 -/
def interleavelaw22_ClockJoins.C (k : Nat) (l0 l1 : List Int) : Prop :=
  interleavelaw22_awake.f k = some true ∧ (l0.length ≤ 60 → l1.length ≤ 60 → ∃ g g', clock_Join.f k l0 l1 = some g ∧ interleaveref22_Join.f k l0 l1 = some g' ∧ interleaveref22_Equal.f k g g' = some true ∧ interleaveref22_Equal.f k l0 l0 = some true ∧ interleaveref22_Equal.f k l1 l1 = some true)
open Classical in
noncomputable def interleavelaw22_ClockJoins.f (k : Nat) (l0 : List Int) (l1 : List Int) : Option Bool := if interleavelaw22_ClockJoins.C k l0 l1 then some true else none
theorem interleavelaw22_ClockJoins.lt_of (l : List Int) (h : l.length ≤ 60) : interleavelaw22_long.f l = some false := by
  unfold interleavelaw22_long.f; rw [decide_eq_false (by omega)]
theorem interleavelaw22_ClockJoins.gt_of (l : List Int) (h : ¬ l.length ≤ 60) : interleavelaw22_long.f l = some true := by
  unfold interleavelaw22_long.f; rw [decide_eq_true (by omega)]
theorem interleavelaw22_ClockJoins.front (w : World) (A : Option Addr) (l : List Int) (h : Kd.C (Kd.int .i64) w A (l.length + 1) (l ++ [77])) : Kd.C (Kd.int .i64) w A l.length l := by
  have h2 := Kd.C_take (m := l.length) (xs := l ++ [77]) (k := Kd.int .i64) (w := w) (A := A) (by simpa using h) (by simp)
  simpa using h2
theorem interleavelaw22_ClockJoins.reads {w : World} {base : Nat} {ok : Nat → Prop} {A : Option Addr} {c : Nat} {l : List Int} (h : Kd.R (Kd.int .i64) 3 w base ok (.slice A (l.length + 1) c) (l ++ [77])) : Kd.C (Kd.int .i64) w A (l.length + 1) (l ++ [77]) := by
  obtain ⟨A', c', e, _, hr⟩ := Kd.R_reads h
  injection e with e1 e2 e3
  subst e1
  simpa using hr
theorem interleavelaw22_ClockJoins.low {w : World} {base : Nat} {v : Value} {l : List Int} (h : Kd.R (Kd.int .i64) 3 w base (fun _ => True) v l) : Kd.R (Kd.int .i64) 3 w 0 (fun k => k < w.heap.size) v l :=
  Kd.R_lower (Kd.R_mono (Kd.R_bound h) (fun _ hk => hk.2.2.1)) (Nat.zero_le _)
set_option maxHeartbeats 8000000 in
set_option maxRecDepth 100000 in
theorem interleavelaw22_ClockJoins.calls_long (k : Nat) (A0 : Option Addr) (c0 : Nat) (l0 : List Int) (A1 : Option Addr) (c1 : Nat) (l1 : List Int) (w : World) (hr0 : Kd.C (Kd.int .i64) w A0 l0.length l0) (hc0 : l0.length ≤ c0) (hr1 : Kd.C (Kd.int .i64) w A1 l1.length l1) (hc1 : l1.length ≤ c1) (h : interleavelaw22_awake.f k = some true) (hl : ¬ l0.length ≤ 60) :
    Calls Try.prog 4 #[.slice A0 l0.length c0, .slice A1 l1.length c1] w fun e w' => e = .returned (.bool true) ∧ Below w.heap.size w w' := by
  have HR0 := Aside0.mk hr0
  have HC0 := Aside0.mk hc0
  have HH := Aside0.mk h
  have HL := Aside0.mk (interleavelaw22_ClockJoins.gt_of l0 hl)
  clear hr0 hc0 hr1 hc1 h hl
  go_enter Try.func4, Try.ntmps4
  go_wp2_with fail
  refine (interleavelaw22_long.calls _ _ l0 true _ HR0.out HC0.out HL.out).mono ?_
  rintro e w' ⟨rfl, ⟨nd, rfl⟩⟩
  go_wp2_with fail
  refine (interleavelaw22_awake.calls k true _ HH.out).mono ?_
  rintro e w' ⟨rfl, hb⟩
  have HB := Aside0.mk (Below.refl w.heap.size w)
  have HB' := Aside0.mk (below_step (by repeat (first | (with_reducible first | exact HB.out | apply below_alloc | apply pw_below_drewN | apply below_drew1) | exact HB.out)) hb)
  clear hb HB
  go_wp2
  go_ret
  exact ⟨rfl, HB'.out⟩
set_option maxHeartbeats 8000000 in
set_option maxRecDepth 100000 in
theorem interleavelaw22_ClockJoins.calls_long2 (k : Nat) (A0 : Option Addr) (c0 : Nat) (l0 : List Int) (A1 : Option Addr) (c1 : Nat) (l1 : List Int) (w : World) (hr0 : Kd.C (Kd.int .i64) w A0 l0.length l0) (hc0 : l0.length ≤ c0) (hr1 : Kd.C (Kd.int .i64) w A1 l1.length l1) (hc1 : l1.length ≤ c1) (h : interleavelaw22_awake.f k = some true) (hl0 : l0.length ≤ 60) (hl : ¬ l1.length ≤ 60) :
    Calls Try.prog 4 #[.slice A0 l0.length c0, .slice A1 l1.length c1] w fun e w' => e = .returned (.bool true) ∧ Below w.heap.size w w' := by
  have HR0 := Aside0.mk hr0
  have HC0 := Aside0.mk hc0
  have HR1 := Aside0.mk hr1
  have HC1 := Aside0.mk hc1
  have HH := Aside0.mk h
  have HL0 := Aside0.mk (interleavelaw22_ClockJoins.lt_of l0 hl0)
  have HL := Aside0.mk (interleavelaw22_ClockJoins.gt_of l1 hl)
  clear hr0 hc0 hr1 hc1 h hl hl0
  go_enter Try.func4, Try.ntmps4
  go_wp2_with fail
  refine (interleavelaw22_long.calls _ _ l0 false _ HR0.out HC0.out HL0.out).mono ?_
  rintro e w' ⟨rfl, ⟨nd, rfl⟩⟩
  go_wp2_with fail
  refine (interleavelaw22_long.calls _ _ l1 true _ (Kd.C_drewN HR1.out _) HC1.out HL.out).mono ?_
  rintro e w' ⟨rfl, ⟨nd2, rfl⟩⟩
  go_wp2_with fail
  refine (interleavelaw22_awake.calls k true _ HH.out).mono ?_
  rintro e w' ⟨rfl, hb⟩
  have HB := Aside0.mk (Below.refl w.heap.size w)
  have HB' := Aside0.mk (below_step (by repeat (first | (with_reducible first | exact HB.out | apply below_alloc | apply pw_below_drewN | apply below_drew1) | exact HB.out)) hb)
  clear hb HB
  go_wp2
  go_ret
  exact ⟨rfl, HB'.out⟩
set_option maxHeartbeats 8000000 in
set_option maxRecDepth 100000 in
theorem interleavelaw22_ClockJoins.calls_short (k : Nat) (A0 : Option Addr) (c0 : Nat) (l0 : List Int) (A1 : Option Addr) (c1 : Nat) (l1 : List Int) (w : World) (hr0 : Kd.C (Kd.int .i64) w A0 l0.length l0) (hc0 : l0.length ≤ c0) (hr1 : Kd.C (Kd.int .i64) w A1 l1.length l1) (hc1 : l1.length ≤ c1) (h : interleavelaw22_awake.f k = some true) (hl0 : l0.length ≤ 60) (hl1 : l1.length ≤ 60)
    (g g' : List Int) (hg : clock_Join.f k l0 l1 = some g) (hg' : interleaveref22_Join.f k l0 l1 = some g') (he : interleaveref22_Equal.f k g g' = some true) (he0 : interleaveref22_Equal.f k l0 l0 = some true) (he1 : interleaveref22_Equal.f k l1 l1 = some true) (hgl : g.length ≤ 100) :
    Calls Try.prog 4 #[.slice A0 l0.length c0, .slice A1 l1.length c1] w fun e w' => e = .returned (.bool true) ∧ Below w.heap.size w w' := by
  have HR0 := Aside0.mk hr0
  have HC0 := Aside0.mk hc0
  have HR1 := Aside0.mk hr1
  have HC1 := Aside0.mk hc1
  have HH := Aside0.mk h
  have HL0 := Aside0.mk (interleavelaw22_ClockJoins.lt_of l0 hl0)
  have HL1 := Aside0.mk (interleavelaw22_ClockJoins.lt_of l1 hl1)
  have HG := Aside0.mk hg
  have HG' := Aside0.mk hg'
  have HE := Aside0.mk he
  have HE0 := Aside0.mk he0
  have HE1 := Aside0.mk he1
  have HB := Aside0.mk (Below.refl w.heap.size w)
  clear hr0 hc0 hr1 hc1 h hg hg' he he0 he1
  go_enter Try.func4, Try.ntmps4
  go_wp2_with fail
  refine (interleavelaw22_long.calls _ _ l0 false _ HR0.out HC0.out HL0.out).mono ?_
  rintro e w' ⟨rfl, ⟨nd, rfl⟩⟩
  go_wp2_with fail
  refine (interleavelaw22_long.calls _ _ l1 false _ (Kd.C_drewN HR1.out _) HC1.out HL1.out).mono ?_
  rintro e w' ⟨rfl, ⟨nd2, rfl⟩⟩
  go_wp2_with fail
  refine (interleavelaw22_spare.calls _ _ l0 _ (by repeat (first | exact HR0.out | (with_reducible refine Kd.C_drewN ?_ _) | (with_reducible refine Kd.C_drew ?_))) hl0).mono ?_
  rintro e w3 ⟨Ax, cx, rfl, hcx, hx, hb⟩
  have n1_ := Aside0.mk (below_step (by repeat (first | (with_reducible first | exact HB.out | apply below_alloc | apply pw_below_drewN | apply below_drew1) | exact HB.out)) hb)
  have HX := Aside0.mk (interleavelaw22_ClockJoins.low hx)
  have HCX := Aside0.mk hcx
  clear HB hb hx hcx
  have HB := n1_
  clear n1_
  go_wp2_with fail
  refine (interleavelaw22_spare.calls _ _ l1 _ (Kd.C_below HR1.out HB.out) hl1).mono ?_
  rintro e w4 ⟨Ay, cy, rfl, hcy, hy, hb⟩
  have n1_ := Aside0.mk (below_step (by repeat (first | (with_reducible first | exact HB.out | apply below_alloc | apply pw_below_drewN | apply below_drew1) | exact HB.out)) hb)
  have n2_ := Aside0.mk (Kd.R_mono (Kd.R_below HX.out hb) (fun k_ hk => Nat.lt_of_lt_of_le hk hb.size) : Kd.R (Kd.int .i64) 3 w4 0 (fun k => k < w4.heap.size) (.slice Ax (l0.length + 1) cx) (l0 ++ [77]))
  have HY := Aside0.mk (interleavelaw22_ClockJoins.low hy)
  have HCY := Aside0.mk hcy
  clear HB HX hb hy hcy
  have HB := n1_
  have HX := n2_
  clear n1_ n2_
  go_wp2_with fail
  refine (clock_Join.calls k _ _ l0 _ _ l1 g _ (interleavelaw22_ClockJoins.front _ _ _ (interleavelaw22_ClockJoins.reads HX.out)) (by have := HCX.out; omega) (interleavelaw22_ClockJoins.front _ _ _ (interleavelaw22_ClockJoins.reads HY.out)) (by have := HCY.out; omega) HG.out).mono ?_
  rintro e w5 ⟨v5, rfl, ho, hb⟩
  have n1_ := Aside0.mk (below_step (by repeat (first | (with_reducible first | exact HB.out | apply below_alloc | apply pw_below_drewN | apply below_drew1) | exact HB.out)) hb)
  have n2_ := Aside0.mk (Kd.R_below HX.out hb)
  have n3_ := Aside0.mk (Kd.R_below HY.out hb)
  have HO := Aside0.mk ho
  have HW4 := Aside0.mk (below_size HB.out)
  clear HB HX HY hb ho
  have HB := n1_
  have HX := n2_
  have HY := n3_
  clear n1_ n2_ n3_
  go_wp2_with fail
  refine (interleaveref22_Join.calls k _ _ l0 _ _ l1 g' _ (Kd.C_below HR0.out HB.out) HC0.out (Kd.C_below HR1.out HB.out) HC1.out HG'.out).mono ?_
  rintro e w6 ⟨v6, rfl, ho', hb⟩
  have n1_ := Aside0.mk (below_step (by repeat (first | (with_reducible first | exact HB.out | apply below_alloc | apply pw_below_drewN | apply below_drew1) | exact HB.out)) hb)
  have n2_ := Aside0.mk (Kd.R_below HX.out hb)
  have n3_ := Aside0.mk (Kd.R_below HY.out hb)
  have n4_ := Aside0.mk (Kd.R_below HO.out hb)
  have HO' := Aside0.mk ho'
  clear HB HX HY HO hb ho'
  have HB := n1_
  have HX := n2_
  have HY := n3_
  have HO := n4_
  clear n1_ n2_ n3_ n4_
  obtain ⟨Ao, co, eo, hlo, hro⟩ := Kd.R_reads HO.out
  subst eo
  obtain ⟨Ap, cp, ep, hlp, hrp⟩ := Kd.R_reads HO'.out
  subst ep
  have HRO := Aside0.mk hro
  have HRP := Aside0.mk hrp
  have HLO := Aside0.mk hlo
  have HLP := Aside0.mk hlp
  clear hro hrp hlo hlp
  go_wp2_with fail
  refine (interleaveref22_Equal.calls k _ _ g _ _ g' true _ HRO.out HLO.out HRP.out HLP.out HE.out).mono ?_
  rintro e w' ⟨rfl, ⟨nd3, rfl⟩⟩
  go_wp2
  have n1_ := Aside0.mk (Kd.R_drewN HX.out nd3)
  have n2_ := Aside0.mk (Kd.R_drewN HY.out nd3)
  have n3_ := Aside0.mk (Kd.R_drewN HO.out nd3)
  have n4_ : Aside0 (Below w.heap.size w (w6.drewN nd3)) := ⟨(by repeat (first | (with_reducible first | exact HB.out | apply below_alloc | apply pw_below_drewN | apply below_drew1) | exact HB.out))⟩
  clear HX HY HO HB HRO HRP HLO HLP HO'
  go_loopw [31] (fun v wr => ∃ (j : Int) (z : List Int), v = .int .i64 j ∧ 0 ≤ j ∧ j ≤ (g.length : Int) ∧ Aside0 (z.length = g.length) ∧ Aside0 (Kd.R (Kd.int .i64) 3 wr w4.heap.size (fun _ => True) (.slice Ao g.length co) z) ∧ Aside0 (Kd.R (Kd.int .i64) 3 wr 0 (fun k => k < w4.heap.size) (.slice Ax (l0.length + 1) cx) (l0 ++ [77])) ∧ Aside0 (Kd.R (Kd.int .i64) 3 wr 0 (fun k => k < w4.heap.size) (.slice Ay (l1.length + 1) cy) (l1 ++ [77])) ∧ Aside0 (Below w.heap.size w wr)) (fun v _ => g.length - (intOf v).toNat)
  case atStart => exact ⟨0, g, rfl, by omega, by omega, ⟨rfl⟩, n3_, n1_, n2_, n4_⟩
  case round =>
    clear n1_ n2_ n3_ n4_
    obtain ⟨j, z, rfl, hj0, hj1, HZ, HO, HX, HY, HB⟩ := hrel
    by_cases hlt : j < (g.length : Int)
    · obtain ⟨go, co', eo, gb, gl, cl, HGg⟩ := Kd.R_form HO.out (by have := HZ.out; omega)
      injection eo with e1 e2 e3
      subst e1 e3
      clear e2
      obtain ⟨hx36, hf36⟩ := Kd.R_celln 0 HO.out j hj0 hlt
      have hp := Kd.R_putg HO.out j (-5)
      have n1_ := Aside0.mk (hp.1)
      have n2_ := Aside0.mk (Kd.R_far (p := ⟨go, j.toNat, none⟩) HX.out (fun k_ hk e_ => by have : k_ = go := e_; omega) (.int .i64 (-5)))
      have n3_ := Aside0.mk (Kd.R_far (p := ⟨go, j.toNat, none⟩) HY.out (fun k_ hk e_ => by have : k_ = go := e_; omega) (.int .i64 (-5)))
      have n4_ := Aside0.mk (below_set (j := j.toNat) (v := .int .i64 (-5)) HB.out (Nat.le_trans HW4.out gb))
      clear hp HGg
      go_wp2
      go_roundw
      case rel => exact ⟨j + 1, z.set j.toNat (-5), rfl, by omega, by omega, ⟨by rw [List.length_set]; exact HZ.out⟩, n1_, n2_, n3_, n4_⟩
      case measure => simp [intOf]; omega
    · have hje : (j < (g.length : Int)) = False := eq_false hlt
      go_wp2_with fail
      refine (interleavelaw22_kept.calls k _ _ l0 _ _ l0 _ (interleavelaw22_ClockJoins.reads HX.out) HCX.out hl0 (Kd.C_below HR0.out HB.out) HC0.out HE0.out).mono ?_
      rintro e w' ⟨rfl, ⟨nd4, rfl⟩⟩
      go_wp2_with fail
      refine (interleavelaw22_kept.calls k _ _ l1 _ _ l1 _ (interleavelaw22_ClockJoins.reads (Kd.R_drewN HY.out nd4)) HCY.out hl1 (Kd.C_drewN (Kd.C_below HR1.out HB.out) nd4) HC1.out HE1.out).mono ?_
      rintro e w' ⟨rfl, ⟨nd5, rfl⟩⟩
      go_wp2_with fail
      refine (interleavelaw22_awake.calls k true _ HH.out).mono ?_
      rintro e w' ⟨rfl, hb⟩
      have HB' := Aside0.mk (below_step (by repeat (first | (with_reducible first | exact HB.out | apply below_alloc | apply pw_below_drewN | apply below_drew1) | exact HB.out)) hb)
      clear hb
      go_wp2
      go_ret
      exact ⟨rfl, HB'.out⟩
set_option maxHeartbeats 8000000 in
theorem interleavelaw22_ClockJoins.join_len (k : Nat) (l0 l1 g : List Int) (hg : clock_Join.f k l0 l1 = some g) (hl0 : l0.length ≤ 60) (hl1 : l1.length ≤ 60) : g.length ≤ 100 := by
  have key : ∀ (k : Nat) (z : List Int) (n i : Int) (r : List Int), clock_Join.l0 k l0 l1 z n i = some r → r.length = z.length := by
    intro k
    induction k with
    | zero => intro z n i r h; simp [clock_Join.l0] at h
    | succ k ih =>
      intro z n i r h
      rw [clock_Join.l0] at h
      by_cases c : i < n
      · rw [if_pos c] at h
        obtain ⟨t1, _, h⟩ := Option.bind_eq_some_iff.mp h
        obtain ⟨t2, _, h⟩ := Option.bind_eq_some_iff.mp h
        by_cases c1 : 0 ≤ i
        · rw [if_pos c1] at h
          by_cases c2 : i < (z.length : Int)
          · rw [if_pos c2] at h
            rw [ih _ _ _ _ h, List.length_set]
          · rw [if_neg c2] at h; exact absurd h (by simp)
        · rw [if_neg c1] at h; exact absurd h (by simp)
      · rw [if_neg c] at h
        rw [Option.some.inj h]
  unfold clock_Join.f at hg
  by_cases c1 : 0 ≤ (mx (l0.length : Int) (l1.length : Int))
  · rw [if_pos c1] at hg
    by_cases c2 : (mx (l0.length : Int) (l1.length : Int) : Int).toNat ≤ 35184372088832
    · rw [if_pos c2] at hg
      have h := key _ _ _ _ _ hg
      rw [h, List.length_replicate]
      unfold mx; split <;> omega
    · rw [if_neg c2] at hg; exact absurd hg (by simp)
  · rw [if_neg c1] at hg; exact absurd hg (by simp)
theorem interleavelaw22_ClockJoins.calls (k : Nat) (A0 : Option Addr) (c0 : Nat) (l0 : List Int) (A1 : Option Addr) (c1 : Nat) (l1 : List Int) (r : Bool) (w : World) (hr0 : Kd.C (Kd.int .i64) w A0 l0.length l0) (hc0 : l0.length ≤ c0) (hr1 : Kd.C (Kd.int .i64) w A1 l1.length l1) (hc1 : l1.length ≤ c1) (h : interleavelaw22_ClockJoins.f k l0 l1 = some r) :
    Calls Try.prog 4 #[.slice A0 l0.length c0, .slice A1 l1.length c1] w fun e w' => e = .returned (.bool r) ∧ Below w.heap.size w w' := by
  unfold interleavelaw22_ClockJoins.f at h
  by_cases hC : interleavelaw22_ClockJoins.C k l0 l1
  · rw [if_pos hC] at h
    obtain rfl := Option.some.inj h
    obtain ⟨ha, hC⟩ := hC
    by_cases hl0 : l0.length ≤ 60
    · by_cases hl1 : l1.length ≤ 60
      · obtain ⟨g, g', hg, hg', he, he0, he1⟩ := hC hl0 hl1
        exact interleavelaw22_ClockJoins.calls_short k A0 c0 l0 A1 c1 l1 w hr0 hc0 hr1 hc1 ha hl0 hl1 g g' hg hg' he he0 he1 (interleavelaw22_ClockJoins.join_len k l0 l1 g hg hl0 hl1)
      · exact interleavelaw22_ClockJoins.calls_long2 k A0 c0 l0 A1 c1 l1 w hr0 hc0 hr1 hc1 ha hl0 hl1
    · exact interleavelaw22_ClockJoins.calls_long k A0 c0 l0 A1 c1 l1 w hr0 hc0 hr1 hc1 ha hl0
  · rw [if_neg hC] at h; exact absurd h (by simp)


/-- THE ONE PURE STATEMENT of interleavelaw22_ClockJoins: yours. -/
def interleavelaw22_ClockJoins.Pure : Prop := ∀ (l0 : List Int) (l1 : List Int), l0.length ≤ maxLen → l0.length * 8 ≤ 140737488351232 → (∀ x ∈ l0, (Lit.int .i64 x).wf = true) → l1.length ≤ maxLen → l1.length * 8 ≤ 140737488351232 → (∀ x ∈ l1, (Lit.int .i64 x).wf = true) → ∃ k, interleavelaw22_ClockJoins.f k l0 l1 = some true
theorem interleavelaw22_ClockJoins.walk (P : interleavelaw22_ClockJoins.Pure) (a0 : Option Addr) (len0 cap0 : Nat) (z0 : List Int) (a1 : Option Addr) (len1 cap1 : Nat) (z1 : List Int) (w : World) (w0 : (a0 = none ∧ len0 = 0 ∧ cap0 = 0 ∧ z0 = []) ∨ ∃ x, a0 = some x ∧ len0 ≤ cap0 ∧ cap0 ≤ maxLen ∧ z0.length = cap0 ∧ (∀ i, i < z0.length → w.cell? (x.add i) = some (.int .i64 (z0.getD i 0))) ∧ ∀ n ∈ z0, (Lit.int .i64 n).wf = true) (y0 : len0 * 8 ≤ 140737488351232) (w1 : (a1 = none ∧ len1 = 0 ∧ cap1 = 0 ∧ z1 = []) ∨ ∃ x, a1 = some x ∧ len1 ≤ cap1 ∧ cap1 ≤ maxLen ∧ z1.length = cap1 ∧ (∀ i, i < z1.length → w.cell? (x.add i) = some (.int .i64 (z1.getD i 0))) ∧ ∀ n ∈ z1, (Lit.int .i64 n).wf = true) (y1 : len1 * 8 ≤ 140737488351232) :
    Calls Try.prog 4 #[.slice a0 len0 cap0, .slice a1 len1 cap1] w fun e w' => e = .returned (.bool true) ∧ Below w.heap.size w w' := by
  obtain ⟨l0, rfl, hr0, hm0, hw0, hc0⟩ := ReadsInt.ofRowC w0
  obtain ⟨l1, rfl, hr1, hm1, hw1, hc1⟩ := ReadsInt.ofRowC w1
  obtain ⟨k, h⟩ := P l0 l1 hm0 y0 hw0 hm1 y1 hw1
  refine (interleavelaw22_ClockJoins.calls k _ _ l0 _ _ l1 true w (Kd.C_of_reads (d := (0 : Int)) (h1 := fun _ => rfl) hr0) hc0 (Kd.C_of_reads (d := (0 : Int)) (h1 := fun _ => rfl) hr1) hc1 h).mono ?_
  rintro e w' ⟨rfl, hd⟩
  exact ⟨rfl, hd⟩
end Go.Proofs.Ytdbpdhbabolooaa.MClockJoins
