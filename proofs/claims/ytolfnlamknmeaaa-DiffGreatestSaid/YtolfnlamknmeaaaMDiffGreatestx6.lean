-- Written by a program of this session (wip/myprint in its repo: the kit's print with additions of its own).
import Derived.Test.YtolfnlamknmeaaaMDiffGreatestx0
namespace Go.Proofs.Ytolfnlamknmeaaa.MDiffGreatest
open Go.RowKit Go.Proofs.YtolfnlamknmeaaaW.PrintWords Go.Proofs.YtolfnlamknmeaaaW.PrintLast Go.Proofs.YtolfnlamknmeaaaW.PrintMore
attribute [local go_sem] max2_int min2_int max_two min_two max_three min_three max_four min_four   -- for this text's walks alone
set_option linter.unusedVariables false
set_option linter.unusedSimpArgs false

/-! ### diff_Holds: function 21 -/
def diff_Holds.bad (x : List Int) (d : S36) : Bool :=
  if d.f0 < 0 then true else if d.f1 < 0 then true else if (x.length : Int) ≤ d.f0 then true else if (x.length : Int) ≤ d.f1 then true else decide (d.f2 < wrap64 (rd x d.f0 - rd x d.f1))
set_option maxHeartbeats 8000000 in
set_option maxRecDepth 100000 in
theorem diff_Holds.lit (W : World) (d : S36) (A1 : Option Addr) (c1 b : Nat) (x : List Int) (hr : Kd.C (Kd.int .i64) W A1 x.length x) (hb : W.heap[b]? = some (.cells #[.slice A1 x.length c1] 25 (0, 0))) :
    Calls Try.prog 30 #[.agg #[.int .i64 d.f0, .int .i64 d.f1, .int .i64 d.f2], .pointer (some ⟨b, 0, none⟩)] W fun e W' => e = .returned (.bool (diff_Holds.bad x d)) ∧ Below W.heap.size W W' := by
  obtain ⟨X, Y, C⟩ := d
  have e1 := cell_of_one hb
  have l1 := lt_of_block hb
  have HB := Aside0.mk (Below.refl W.heap.size W)
  unfold diff_Holds.bad
  simp only []
  by_cases c1_ : X < 0
  · rw [if_pos c1_]
    have p_ := eq_true c1_
    clear c1_
    go_enter Try.func30, Try.ntmps30
    go_wp2
    obtain ⟨W2, hW2⟩ : ∃ W2, W2 = W.alloc (Obj.cells #[.int .i64 X, .int .i64 Y, .int .i64 C] 36) := ⟨_, rfl⟩
    rw [← hW2]
    have HB2 : Aside0 (Below W.heap.size W W2) := ⟨by rw [hW2]; exact below_alloc (Below.refl _ _) _⟩
    have z0 : W2.cell? ⟨W.heap.size, 0, none⟩ = some (.int .i64 X) := by rw [hW2]; go_simp
    have z1 : W2.cell? ⟨W.heap.size, 1, none⟩ = some (.int .i64 Y) := by rw [hW2]; go_simp
    have z2 : W2.cell? ⟨W.heap.size, 2, none⟩ = some (.int .i64 C) := by rw [hW2]; go_simp
    have z3 : W2.cell? ⟨b, 0, none⟩ = some (.slice A1 x.length c1) := by rw [hW2]; go_simp
    obtain ⟨g, hg⟩ : ∃ g, g = W.heap.size := ⟨_, rfl⟩
    rw [← hg] at z0 z1 z2 ⊢
    clear hW2 hg e1 l1 hb HB
    go_quiet (fail)
    go_wp2
    go_ret
    exact ⟨rfl, below_step HB2.out (pw_below_drewN (Below.refl _ _) _)⟩
  rw [if_neg c1_]
  have n1_ := eq_false c1_
  by_cases c2_ : Y < 0
  · rw [if_pos c2_]
    have p_ := eq_true c2_
    clear c1_ c2_
    go_enter Try.func30, Try.ntmps30
    go_wp2
    obtain ⟨W2, hW2⟩ : ∃ W2, W2 = W.alloc (Obj.cells #[.int .i64 X, .int .i64 Y, .int .i64 C] 36) := ⟨_, rfl⟩
    rw [← hW2]
    have HB2 : Aside0 (Below W.heap.size W W2) := ⟨by rw [hW2]; exact below_alloc (Below.refl _ _) _⟩
    have z0 : W2.cell? ⟨W.heap.size, 0, none⟩ = some (.int .i64 X) := by rw [hW2]; go_simp
    have z1 : W2.cell? ⟨W.heap.size, 1, none⟩ = some (.int .i64 Y) := by rw [hW2]; go_simp
    have z2 : W2.cell? ⟨W.heap.size, 2, none⟩ = some (.int .i64 C) := by rw [hW2]; go_simp
    have z3 : W2.cell? ⟨b, 0, none⟩ = some (.slice A1 x.length c1) := by rw [hW2]; go_simp
    obtain ⟨g, hg⟩ : ∃ g, g = W.heap.size := ⟨_, rfl⟩
    rw [← hg] at z0 z1 z2 ⊢
    clear hW2 hg e1 l1 hb HB
    go_quiet (fail)
    go_wp2
    go_ret
    exact ⟨rfl, below_step HB2.out (pw_below_drewN (Below.refl _ _) _)⟩
  rw [if_neg c2_]
  have n2_ := eq_false c2_
  by_cases c3_ : (x.length : Int) ≤ X
  · rw [if_pos c3_]
    have p_ := eq_true c3_
    clear c1_ c2_ c3_
    go_enter Try.func30, Try.ntmps30
    go_wp2
    obtain ⟨W2, hW2⟩ : ∃ W2, W2 = W.alloc (Obj.cells #[.int .i64 X, .int .i64 Y, .int .i64 C] 36) := ⟨_, rfl⟩
    rw [← hW2]
    have HB2 : Aside0 (Below W.heap.size W W2) := ⟨by rw [hW2]; exact below_alloc (Below.refl _ _) _⟩
    have z0 : W2.cell? ⟨W.heap.size, 0, none⟩ = some (.int .i64 X) := by rw [hW2]; go_simp
    have z1 : W2.cell? ⟨W.heap.size, 1, none⟩ = some (.int .i64 Y) := by rw [hW2]; go_simp
    have z2 : W2.cell? ⟨W.heap.size, 2, none⟩ = some (.int .i64 C) := by rw [hW2]; go_simp
    have z3 : W2.cell? ⟨b, 0, none⟩ = some (.slice A1 x.length c1) := by rw [hW2]; go_simp
    obtain ⟨g, hg⟩ : ∃ g, g = W.heap.size := ⟨_, rfl⟩
    rw [← hg] at z0 z1 z2 ⊢
    clear hW2 hg e1 l1 hb HB
    go_quiet (fail)
    go_wp2
    go_ret
    exact ⟨rfl, below_step HB2.out (pw_below_drewN (Below.refl _ _) _)⟩
  rw [if_neg c3_]
  have n3_ := eq_false c3_
  by_cases c4_ : (x.length : Int) ≤ Y
  · rw [if_pos c4_]
    have p_ := eq_true c4_
    clear c1_ c2_ c3_ c4_
    go_enter Try.func30, Try.ntmps30
    go_wp2
    obtain ⟨W2, hW2⟩ : ∃ W2, W2 = W.alloc (Obj.cells #[.int .i64 X, .int .i64 Y, .int .i64 C] 36) := ⟨_, rfl⟩
    rw [← hW2]
    have HB2 : Aside0 (Below W.heap.size W W2) := ⟨by rw [hW2]; exact below_alloc (Below.refl _ _) _⟩
    have z0 : W2.cell? ⟨W.heap.size, 0, none⟩ = some (.int .i64 X) := by rw [hW2]; go_simp
    have z1 : W2.cell? ⟨W.heap.size, 1, none⟩ = some (.int .i64 Y) := by rw [hW2]; go_simp
    have z2 : W2.cell? ⟨W.heap.size, 2, none⟩ = some (.int .i64 C) := by rw [hW2]; go_simp
    have z3 : W2.cell? ⟨b, 0, none⟩ = some (.slice A1 x.length c1) := by rw [hW2]; go_simp
    obtain ⟨g, hg⟩ : ∃ g, g = W.heap.size := ⟨_, rfl⟩
    rw [← hg] at z0 z1 z2 ⊢
    clear hW2 hg e1 l1 hb HB
    go_quiet (fail)
    go_wp2
    go_ret
    exact ⟨rfl, below_step HB2.out (pw_below_drewN (Below.refl _ _) _)⟩
  rw [if_neg c4_]
  have n4_ := eq_false c4_
  have hx0 : 0 ≤ X := by omega
  have hy0 : 0 ≤ Y := by omega
  have hx1 : X < (x.length : Int) := by omega
  have hy1 : Y < (x.length : Int) := by omega
  obtain ⟨ad, rfl, hcx⟩ := Kd.at_int hr X hx0 hx1
  obtain ⟨ad2, e2, hcy⟩ := Kd.at_int hr Y hy0 hy1
  obtain rfl := Option.some.inj e2
  obtain ⟨vx, hvx⟩ : ∃ v, v = rd x X := ⟨_, rfl⟩
  obtain ⟨vy, hvy⟩ : ∃ v, v = rd x Y := ⟨_, rfl⟩
  rw [← hvx, ← hvy]
  rw [← hvx] at hcx
  rw [← hvy] at hcy
  clear hr e2 c1_ c2_ c3_ c4_ hvx hvy
  go_enter Try.func30, Try.ntmps30
  go_wp2
  obtain ⟨W2, hW2⟩ : ∃ W2, W2 = W.alloc (Obj.cells #[.int .i64 X, .int .i64 Y, .int .i64 C] 36) := ⟨_, rfl⟩
  rw [← hW2]
  have HB2 : Aside0 (Below W.heap.size W W2) := ⟨by rw [hW2]; exact below_alloc (Below.refl _ _) _⟩
  have z0 : W2.cell? ⟨W.heap.size, 0, none⟩ = some (.int .i64 X) := by rw [hW2]; go_simp
  have z1 : W2.cell? ⟨W.heap.size, 1, none⟩ = some (.int .i64 Y) := by rw [hW2]; go_simp
  have z2 : W2.cell? ⟨W.heap.size, 2, none⟩ = some (.int .i64 C) := by rw [hW2]; go_simp
  have z3 : W2.cell? ⟨b, 0, none⟩ = some (.slice (some ad) x.length c1) := by rw [hW2]; go_simp
  have z4 : W2.cell? (ad.add X.toNat) = some (.int .i64 vx) := (HB2.out.cell (World.block_lt_of_cell? W _ hcx)).trans hcx
  have z5 : W2.cell? (ad.add Y.toNat) = some (.int .i64 vy) := (HB2.out.cell (World.block_lt_of_cell? W _ hcy)).trans hcy
  obtain ⟨g, hg⟩ : ∃ g, g = W.heap.size := ⟨_, rfl⟩
  rw [← hg] at z0 z1 z2 ⊢
  clear hW2 hg e1 l1 hb HB hcx hcy
  go_quiet (fail)
  go_wp2
  go_ret
  exact ⟨rfl, below_step HB2.out (pw_below_drewN (Below.refl _ _) _)⟩
def diff_Holds.none_ (x : List Int) (l : List S36) (j : Nat) : Prop := ∀ i : Nat, i < j → diff_Holds.bad x (rd_T36 l (i : Int)) = false
theorem diff_Holds.any_true {x : List Int} {l : List S36} {j : Nat} (hj : j < l.length) (h : diff_Holds.bad x (rd_T36 l (j : Int)) = true) : l.any (diff_Holds.bad x) = true := by
  rw [List.any_eq_true]
  refine ⟨l[j], List.getElem_mem hj, ?_⟩
  rw [← h]; unfold rd_T36; rw [Int.toNat_natCast, List.getD_eq_getElem?_getD, List.getElem?_eq_getElem hj]; rfl
theorem diff_Holds.any_false {x : List Int} {l : List S36} (h : diff_Holds.none_ x l l.length) : l.any (diff_Holds.bad x) = false := by
  rw [List.any_eq_false]
  intro d hd
  obtain ⟨i, hi, rfl⟩ := List.getElem_of_mem hd
  have := h i hi
  unfold rd_T36 at this
  rw [Int.toNat_natCast, List.getD_eq_getElem?_getD, List.getElem?_eq_getElem hi] at this
  simpa using this
set_option maxHeartbeats 8000000 in
set_option maxRecDepth 100000 in
theorem diff_Holds.index (w : World) (A0 : Option Addr) (c0 : Nat) (l : List S36) (A1 : Option Addr) (c1 b : Nat) (x : List Int) (hr0 : Kd.C k36 w A0 l.length l) (hr : Kd.C (Kd.int .i64) w A1 x.length x) (hb : w.heap[b]? = some (.cells #[.slice A1 x.length c1] 25 (0, 0))) :
    Calls Try.prog 32 #[.slice A0 l.length c0, .func (.func 30) #[] #[.pointer (some ⟨b, 0, none⟩)]] w fun e W' => ∃ v : Int, e = .returned (.int .i64 v) ∧ decide (0 ≤ v) = l.any (diff_Holds.bad x) ∧ Below w.heap.size w W' := by
  have hl : l.length ≤ 9223372036854775807 := hr0.2.1
  have HR0 := Aside0.mk hr0
  have HR := Aside0.mk hr
  have HBK := Aside0.mk hb
  clear hr0 hr hb
  go_enter Try.func32, Try.ntmps32
  go_wp2
  go_loopw [8] (fun v wr => ∃ (j : Nat), v = .int .i64 (j : Int) ∧ j ≤ l.length ∧ Aside0 (diff_Holds.none_ x l j) ∧ Aside0 (Below w.heap.size w wr)) (fun v _ => l.length - (intOf v).toNat)
  case atStart => exact ⟨0, rfl, by omega, ⟨fun i hi => by omega⟩, ⟨Below.refl _ _⟩⟩
  case round =>
    obtain ⟨j, rfl, hj, HN, HB⟩ := hrel
    by_cases hlt : j < l.length
    · obtain ⟨ad, e27, hc0, hc1, hc2⟩ := at_T36 HR0.out (j : Int) (by omega) (by omega)
      subst e27
      replace hc0 := (HB.out.cell (World.block_lt_of_cell? w _ hc0)).trans hc0
      replace hc1 := (HB.out.cell (World.block_lt_of_cell? w _ hc1)).trans hc1
      replace hc2 := (HB.out.cell (World.block_lt_of_cell? w _ hc2)).trans hc2
      obtain ⟨d, hd⟩ : ∃ d, d = rd_T36 l (j : Int) := ⟨_, rfl⟩
      rw [← hd] at hc0 hc1 hc2
      have HD := Aside0.mk hd
      clear hd
      simp only [Int.toNat_natCast] at hc0 hc1 hc2
      have hlt' : ((j : Int) < (l.length : Int)) = True := eq_true (by omega)
      go_wp2_with fail
      refine (diff_Holds.lit _ d A1 c1 b x (Kd.C_below HR.out HB.out) (blk_below HBK.out HB.out)).mono ?_
      rintro e w' ⟨rfl, hbel⟩
      cases hbad : diff_Holds.bad x d with
      | true =>
        have HB' := Aside0.mk (below_step (by repeat (first | (with_reducible first | exact HB.out | apply below_alloc | apply pw_below_drewN | apply below_drew1) | exact HB.out)) hbel)
        have HA : Aside0 (l.any (diff_Holds.bad x) = true) := ⟨diff_Holds.any_true hlt (by rw [← HD.out]; exact hbad)⟩
        clear HB hbel hbad
        go_wp2
        (try rw [Exit.noGoto_ret])
        go_ret
        exact ⟨_, rfl, by rw [HA.out]; exact decide_eq_true (by omega), HB'.out⟩
      | false =>
        have HB' := Aside0.mk (below_step (by repeat (first | (with_reducible first | exact HB.out | apply below_alloc | apply pw_below_drewN | apply below_drew1) | exact HB.out)) hbel)
        have HN' : Aside0 (diff_Holds.none_ x l (j + 1)) := ⟨fun i hi => by
          by_cases e : i = j
          · subst e; rw [← HD.out]; exact hbad
          · exact HN.out i (by omega)⟩
        clear HB HN hbel hbad
        go_wp2
        go_roundw
        case rel => exact ⟨j + 1, rfl, by omega, HN', HB'⟩
        case measure => simp [intOf]; omega
    · obtain rfl : j = l.length := by omega
      have hlt' : ((l.length : Int) < (l.length : Int)) = False := eq_false (by omega)
      go_wp2
      (try rw [Exit.noGoto_ret])
      go_ret
      exact ⟨_, rfl, by rw [diff_Holds.any_false HN.out]; rfl, HB.out⟩
set_option maxHeartbeats 8000000 in
set_option maxRecDepth 100000 in
theorem diff_Holds.contains (w : World) (A0 : Option Addr) (c0 : Nat) (l : List S36) (A1 : Option Addr) (c1 b : Nat) (x : List Int) (hr0 : Kd.C k36 w A0 l.length l) (hr : Kd.C (Kd.int .i64) w A1 x.length x) (hb : w.heap[b]? = some (.cells #[.slice A1 x.length c1] 25 (0, 0))) :
    Calls Try.prog 29 #[.slice A0 l.length c0, .func (.func 30) #[] #[.pointer (some ⟨b, 0, none⟩)]] w fun e W' => e = .returned (.bool (l.any (diff_Holds.bad x))) ∧ Below w.heap.size w W' := by
  have HR0 := Aside0.mk hr0
  have HR := Aside0.mk hr
  have HBK := Aside0.mk hb
  clear hr0 hr hb
  go_enter Try.func29, Try.ntmps29
  go_wp2_with fail
  refine (diff_Holds.index w A0 c0 l A1 c1 b x HR0.out HR.out HBK.out).mono ?_
  rintro e w' ⟨v, rfl, hv, hbel⟩
  have HV := Aside0.mk hv
  have HB := Aside0.mk hbel
  clear hv hbel
  go_wp2
  go_ret
  exact ⟨by rw [← HV.out]; rfl, HB.out⟩
def diff_Holds.f (l0 : List S36) (l1 : List Int) : Option Bool := some (!(l0.any (diff_Holds.bad l1)))
set_option maxHeartbeats 8000000 in
set_option maxRecDepth 100000 in
theorem diff_Holds.calls (A0 : Option Addr) (c0 : Nat) (l0 : List S36) (A1 : Option Addr) (c1 : Nat) (l1 : List Int) (r : Bool) (w : World) (hr0 : Kd.C k36 w A0 l0.length l0) (hc0 : l0.length ≤ c0) (hr1 : Kd.C (Kd.int .i64) w A1 l1.length l1) (hc1 : l1.length ≤ c1) (h : diff_Holds.f l0 l1 = some r) :
    Calls Try.prog 21 #[.slice A0 l0.length c0, .slice A1 l1.length c1] w fun e w' => e = .returned (.bool r) ∧ Below w.heap.size w w' := by
  unfold diff_Holds.f at h
  obtain rfl := Option.some.inj h
  have HR0 := Aside0.mk hr0
  have HR := Aside0.mk hr1
  clear hr0 hr1 h
  have HB := Aside0.mk (Below.refl w.heap.size w)
  go_enter Try.func21, Try.ntmps21
  go_wp2_with fail
  refine (diff_Holds.contains _ A0 c0 l0 A1 c1 w.heap.size l1 (Kd.C_below HR0.out (below_alloc (Below.refl _ _) _)) (Kd.C_below HR.out (below_alloc (Below.refl _ _) _)) (blk_new _ _)).mono ?_
  rintro e w' ⟨rfl, hbel⟩
  have HB' := Aside0.mk (below_step (by repeat (first | (with_reducible first | exact HB.out | apply below_alloc | apply pw_below_drewN | apply below_drew1) | exact HB.out)) hbel)
  clear HB hbel
  go_wp2
  go_ret
  exact ⟨rfl, HB'.out⟩

/-! ### interleaveref31_HoldAll: function 22 -/
def interleaveref31_HoldAll.l0 : Nat → List Int → List (S36) → Int → Int → Option (Bool)
  | 0, _, _, _, _ => none
  | k + 1, x1, x7, x8, x9 => if x9 < x8 then (if 0 ≤ x9 then (if x9 < (x7.length : Int) then (if ((rd_T36 x7 x9).f0) < 0 then (some false) else (if ((rd_T36 x7 x9).f0) ≥ (x1.length : Int) then (some false) else (if ((rd_T36 x7 x9).f1) < 0 then (some false) else (if ((rd_T36 x7 x9).f1) ≥ (x1.length : Int) then (some false) else (if 0 ≤ ((rd_T36 x7 x9).f0) then (if ((rd_T36 x7 x9).f0) < (x1.length : Int) then (if 0 ≤ ((rd_T36 x7 x9).f1) then (if ((rd_T36 x7 x9).f1) < (x1.length : Int) then (if (wrap64 ((rd x1 ((rd_T36 x7 x9).f0)) - (rd x1 ((rd_T36 x7 x9).f1)))) > ((rd_T36 x7 x9).f2) then (some false) else (interleaveref31_HoldAll.l0 k x1 x7 x8 (wrap64 (x9 + 1)))) else (none)) else (none)) else (none)) else (none)))))) else (none)) else (none)) else (some true)
def interleaveref31_HoldAll.f (k : Nat) (l0 : List (S36)) (l1 : List Int) : Option (Bool) := interleaveref31_HoldAll.l0 k l1 l0 (l0.length : Int) 0
theorem interleaveref31_HoldAll.mono_l : ∀ k, (∀ y0 y1 y2 y3, LeO (interleaveref31_HoldAll.l0 k y0 y1 y2 y3) (interleaveref31_HoldAll.l0 (k + 1) y0 y1 y2 y3))
  | 0 => fun _ _ _ _ r h => by simp [interleaveref31_HoldAll.l0] at h
  | k + 1 => by
    have ih0 := interleaveref31_HoldAll.mono_l k
    · intro y0 y1 y2 y3
      unfold interleaveref31_HoldAll.l0
      repeat' first
      | (with_reducible exact ih0 _ _ _ _)
      | (with_reducible exact LeO.refl _)
      | (with_reducible exact LeO.none _)
      | (with_reducible refine LeO.ite ?_ ?_)
      | (with_reducible refine LeO.bind ?_ (fun _ => ?_))
      | exact ih0 _ _ _ _
      | exact LeO.none _
      | refine LeO.ite ?_ ?_
      | refine LeO.bind ?_ (fun _ => ?_)
theorem interleaveref31_HoldAll.mono : ∀ a0 a1 k, LeO (interleaveref31_HoldAll.f k a0 a1) (interleaveref31_HoldAll.f (k + 1) a0 a1) := by
  intro a0 a1 k
  have ih0 := interleaveref31_HoldAll.mono_l k
  unfold interleaveref31_HoldAll.f
  repeat' first
      | (with_reducible exact ih0 _ _ _ _)
      | (with_reducible exact LeO.refl _)
      | (with_reducible exact LeO.none _)
      | (with_reducible refine LeO.ite ?_ ?_)
      | (with_reducible refine LeO.bind ?_ (fun _ => ?_))
      | exact ih0 _ _ _ _
      | exact LeO.none _
      | refine LeO.ite ?_ ?_
      | refine LeO.bind ?_ (fun _ => ?_)
set_option maxHeartbeats 8000000 in
set_option maxRecDepth 100000 in
theorem interleaveref31_HoldAll.calls (k : Nat) (A0 : Option Addr) (c0 : Nat) (l0 : List (S36)) (A1 : Option Addr) (c1 : Nat) (l1 : List Int) (r : Bool) (w : World) (hr0 : Kd.C k36 w A0 l0.length l0) (hc0 : l0.length ≤ c0) (hr1 : Kd.C (Kd.int .i64) w A1 l1.length l1) (hc1 : l1.length ≤ c1) (h : interleaveref31_HoldAll.f k l0 l1 = some r) :
    Calls Try.prog 22 #[.slice A0 l0.length c0, .slice A1 l1.length c1] w fun e w' => e = .returned (.bool r) ∧ Below w.heap.size w w' := by
  have hu36 := Try.underlying36
  have HR0 := Aside0.mk hr0
  have HC0 := Aside0.mk hc0
  clear hr0 hc0
  have HR1 := Aside0.mk hr1
  have HC1 := Aside0.mk hc1
  clear hr1 hc1
  have HB := Aside0.mk (Below.refl w.heap.size w)
  have H : (interleaveref31_HoldAll.l0 k l1 l0 (l0.length : Int) 0) = some r := h
  clear h
  have H' := Aside0.mk H
  clear H
  go_enter Try.func22, Try.ntmps22
  go_wp2
  repeat (go_quiet (fail); try go_wp2)
  go_loopg [9] k (fun kq v9 w' => ∃ (x9_1 : Int), v9 = .int .i64 x9_1 ∧ Aside0 (interleaveref31_HoldAll.l0 kq l1 l0 (l0.length : Int) x9_1 = some r) ∧ Aside0 (kq ≤ k) ∧ Aside0 (Below w.heap.size w w'))
  case atStart => exact ⟨(0), (by first | rfl | (simp; done) | (simp [*]; done)), H', ⟨Nat.le_refl _⟩, ⟨by repeat (first | (with_reducible first | exact HB.out | apply below_alloc | apply pw_below_drewN | apply below_drew1) | exact HB.out)⟩⟩
  case round =>
    clear H'
    try clear c1
    try clear c2
    try clear p2
    obtain ⟨x9_1, rfl, HA, HK1, HB⟩ := hrel
    cases gk with
    | zero => exact absurd HA.out (by simp [interleaveref31_HoldAll.l0])
    | succ k1 =>
      have H := HA.out
      clear HA
      simp only [interleaveref31_HoldAll.l0] at H
      by_cases c3 : x9_1 < (l0.length : Int)
      · rw [if_pos c3] at H
        have c3b0 : decide (x9_1 < (l0.length : Int)) = true := decide_eq_true c3
        clear c3
        by_cases c4 : 0 ≤ x9_1
        · rw [if_pos c4] at H
          have c4b0 : decide (0 ≤ x9_1) = true := decide_eq_true c4
          clear c4
          by_cases c5 : x9_1 < (l0.length : Int)
          · rw [if_pos c5] at H
            have c5b0 : decide (x9_1 < (l0.length : Int)) = true := decide_eq_true c5
            clear c5
            by_cases c6 : ((rd_T36 l0 x9_1).f0) < 0
            · rw [if_pos c6] at H
              have c6b0 : decide (((rd_T36 l0 x9_1).f0) < 0) = true := decide_eq_true c6
              clear c6
              obtain rfl := Option.some.inj H
              have p162 : 0 ≤ (x9_1 : Int) := of_decide_eq_true (by first | (with_reducible assumption) | assumption)
              have q162 : x9_1 < (l0.length : Int) := of_decide_eq_true (by first | (with_reducible assumption) | assumption)
              obtain ⟨ad162, e162, hx162_0, hx162_1, hx162_2⟩ := at_T36 HR0.out x9_1 p162 q162
              cases e162
              replace hx162_0 := (HB.out.cell (World.block_lt_of_cell? w _ hx162_0)).trans hx162_0
              replace hx162_1 := (HB.out.cell (World.block_lt_of_cell? w _ hx162_1)).trans hx162_1
              replace hx162_2 := (HB.out.cell (World.block_lt_of_cell? w _ hx162_2)).trans hx162_2
              replace p162 := eq_true p162
              replace q162 := eq_true q162
              go_wp2_with (first | ((with_reducible refine gate_dst (N := 6) rfl ?_); (try (refine gate_guard (by rfl) ?_; dsimp only)); refine box_event ?hg (N := 6) ?hd (cs := #[.int .i64 0, .int .i64 0, .int .i64 0]) (t := 36) ?hr ?_; (case hd => rfl); (case hg => rfl); (case hr => first | (go_simp; done) | (go_simp; rfl)); intro gb163 hg w7 hbox hb; have n0_ := Aside0.mk (below_step (by repeat (first | (with_reducible first | exact HB.out | apply below_alloc | apply pw_below_drewN | apply below_drew1) | exact HB.out)) hb); have n1_ := Aside0.mk (hbox); have n2_ := Aside0.mk ((by rw [hg]; exact (below_size (by repeat (first | (with_reducible first | exact HB.out | apply below_alloc | apply pw_below_drewN | apply below_drew1) | exact HB.out))) : w.heap.size ≤ gb163)); have n3_ := Aside0.mk ((by rw [hg]; exact (below_size (by repeat (first | (with_reducible first | exact HB.out | apply below_alloc | apply pw_below_drewN | apply below_drew1) | exact HB.out))) : w.heap.size ≤ gb163)); clear HB; have HB := n0_; have BK163 := n1_; have GW163 := n2_; have GE163 := n3_; clear n0_ n1_ n2_ n3_; clear hb hbox hg; have hcz8_0 : w7.cell? ⟨gb163, 0, none⟩ = some (.int .i64 0) := (blk_cell BK163.out 0).trans rfl; have hcz8_1 : w7.cell? ⟨gb163, 1, none⟩ = some (.int .i64 0) := (blk_cell BK163.out 1).trans rfl; have hcz8_2 : w7.cell? ⟨gb163, 2, none⟩ = some (.int .i64 0) := (blk_cell BK163.out 2).trans rfl; have hfz8_0 := blk_frozen BK163.out 0; have hfz8_1 := blk_frozen BK163.out 1; have hfz8_2 := blk_frozen BK163.out 2))
              repeat (go_quiet (first | ((with_reducible refine gate_dst (N := 6) rfl ?_); (try (refine gate_guard (by rfl) ?_; dsimp only)); refine box_event ?hg (N := 6) ?hd (cs := #[.int .i64 0, .int .i64 0, .int .i64 0]) (t := 36) ?hr ?_; (case hd => rfl); (case hg => rfl); (case hr => first | (go_simp; done) | (go_simp; rfl)); intro gb163 hg w7 hbox hb; have n0_ := Aside0.mk (below_step (by repeat (first | (with_reducible first | exact HB.out | apply below_alloc | apply pw_below_drewN | apply below_drew1) | exact HB.out)) hb); have n1_ := Aside0.mk (hbox); have n2_ := Aside0.mk ((by rw [hg]; exact (below_size (by repeat (first | (with_reducible first | exact HB.out | apply below_alloc | apply pw_below_drewN | apply below_drew1) | exact HB.out))) : w.heap.size ≤ gb163)); have n3_ := Aside0.mk ((by rw [hg]; exact (below_size (by repeat (first | (with_reducible first | exact HB.out | apply below_alloc | apply pw_below_drewN | apply below_drew1) | exact HB.out))) : w.heap.size ≤ gb163)); clear HB; have HB := n0_; have BK163 := n1_; have GW163 := n2_; have GE163 := n3_; clear n0_ n1_ n2_ n3_; clear hb hbox hg; have hcz8_0 : w7.cell? ⟨gb163, 0, none⟩ = some (.int .i64 0) := (blk_cell BK163.out 0).trans rfl; have hcz8_1 : w7.cell? ⟨gb163, 1, none⟩ = some (.int .i64 0) := (blk_cell BK163.out 1).trans rfl; have hcz8_2 : w7.cell? ⟨gb163, 2, none⟩ = some (.int .i64 0) := (blk_cell BK163.out 2).trans rfl; have hfz8_0 := blk_frozen BK163.out 0; have hfz8_1 := blk_frozen BK163.out 1; have hfz8_2 := blk_frozen BK163.out 2)); try go_wp2_with (first | ((with_reducible refine gate_dst (N := 6) rfl ?_); (try (refine gate_guard (by rfl) ?_; dsimp only)); refine box_event ?hg (N := 6) ?hd (cs := #[.int .i64 0, .int .i64 0, .int .i64 0]) (t := 36) ?hr ?_; (case hd => rfl); (case hg => rfl); (case hr => first | (go_simp; done) | (go_simp; rfl)); intro gb163 hg w7 hbox hb; have n0_ := Aside0.mk (below_step (by repeat (first | (with_reducible first | exact HB.out | apply below_alloc | apply pw_below_drewN | apply below_drew1) | exact HB.out)) hb); have n1_ := Aside0.mk (hbox); have n2_ := Aside0.mk ((by rw [hg]; exact (below_size (by repeat (first | (with_reducible first | exact HB.out | apply below_alloc | apply pw_below_drewN | apply below_drew1) | exact HB.out))) : w.heap.size ≤ gb163)); have n3_ := Aside0.mk ((by rw [hg]; exact (below_size (by repeat (first | (with_reducible first | exact HB.out | apply below_alloc | apply pw_below_drewN | apply below_drew1) | exact HB.out))) : w.heap.size ≤ gb163)); clear HB; have HB := n0_; have BK163 := n1_; have GW163 := n2_; have GE163 := n3_; clear n0_ n1_ n2_ n3_; clear hb hbox hg; have hcz8_0 : w7.cell? ⟨gb163, 0, none⟩ = some (.int .i64 0) := (blk_cell BK163.out 0).trans rfl; have hcz8_1 : w7.cell? ⟨gb163, 1, none⟩ = some (.int .i64 0) := (blk_cell BK163.out 1).trans rfl; have hcz8_2 : w7.cell? ⟨gb163, 2, none⟩ = some (.int .i64 0) := (blk_cell BK163.out 2).trans rfl; have hfz8_0 := blk_frozen BK163.out 0; have hfz8_1 := blk_frozen BK163.out 1; have hfz8_2 := blk_frozen BK163.out 2)))
              go_ret
              exact ⟨by first | rfl | (simp [errW_none, errW_some] <;> rfl) | (simp [*, errW_none, errW_some] <;> rfl), by repeat (first | (with_reducible first | exact HB.out | apply below_alloc | apply pw_below_drewN | apply below_drew1 | refine below_set ?_ GE163.out) | exact HB.out)⟩
            · rw [if_neg c6] at H
              have c6b0 : decide (((rd_T36 l0 x9_1).f0) < 0) = false := decide_eq_false c6
              clear c6
              by_cases c9 : ((rd_T36 l0 x9_1).f0) ≥ (l1.length : Int)
              · rw [if_pos c9] at H
                have c9b0 : decide ((l1.length : Int) ≤ ((rd_T36 l0 x9_1).f0)) = true := decide_eq_true c9
                clear c9
                obtain rfl := Option.some.inj H
                have p162 : 0 ≤ (x9_1 : Int) := of_decide_eq_true (by first | (with_reducible assumption) | assumption)
                have q162 : x9_1 < (l0.length : Int) := of_decide_eq_true (by first | (with_reducible assumption) | assumption)
                obtain ⟨ad162, e162, hx162_0, hx162_1, hx162_2⟩ := at_T36 HR0.out x9_1 p162 q162
                cases e162
                replace hx162_0 := (HB.out.cell (World.block_lt_of_cell? w _ hx162_0)).trans hx162_0
                replace hx162_1 := (HB.out.cell (World.block_lt_of_cell? w _ hx162_1)).trans hx162_1
                replace hx162_2 := (HB.out.cell (World.block_lt_of_cell? w _ hx162_2)).trans hx162_2
                replace p162 := eq_true p162
                replace q162 := eq_true q162
                go_wp2_with (first | ((with_reducible refine gate_dst (N := 6) rfl ?_); (try (refine gate_guard (by rfl) ?_; dsimp only)); refine box_event ?hg (N := 6) ?hd (cs := #[.int .i64 0, .int .i64 0, .int .i64 0]) (t := 36) ?hr ?_; (case hd => rfl); (case hg => rfl); (case hr => first | (go_simp; done) | (go_simp; rfl)); intro gb163 hg w10 hbox hb; have n0_ := Aside0.mk (below_step (by repeat (first | (with_reducible first | exact HB.out | apply below_alloc | apply pw_below_drewN | apply below_drew1) | exact HB.out)) hb); have n1_ := Aside0.mk (hbox); have n2_ := Aside0.mk ((by rw [hg]; exact (below_size (by repeat (first | (with_reducible first | exact HB.out | apply below_alloc | apply pw_below_drewN | apply below_drew1) | exact HB.out))) : w.heap.size ≤ gb163)); have n3_ := Aside0.mk ((by rw [hg]; exact (below_size (by repeat (first | (with_reducible first | exact HB.out | apply below_alloc | apply pw_below_drewN | apply below_drew1) | exact HB.out))) : w.heap.size ≤ gb163)); clear HB; have HB := n0_; have BK163 := n1_; have GW163 := n2_; have GE163 := n3_; clear n0_ n1_ n2_ n3_; clear hb hbox hg; have hcz11_0 : w10.cell? ⟨gb163, 0, none⟩ = some (.int .i64 0) := (blk_cell BK163.out 0).trans rfl; have hcz11_1 : w10.cell? ⟨gb163, 1, none⟩ = some (.int .i64 0) := (blk_cell BK163.out 1).trans rfl; have hcz11_2 : w10.cell? ⟨gb163, 2, none⟩ = some (.int .i64 0) := (blk_cell BK163.out 2).trans rfl; have hfz11_0 := blk_frozen BK163.out 0; have hfz11_1 := blk_frozen BK163.out 1; have hfz11_2 := blk_frozen BK163.out 2))
                repeat (go_quiet (first | ((with_reducible refine gate_dst (N := 6) rfl ?_); (try (refine gate_guard (by rfl) ?_; dsimp only)); refine box_event ?hg (N := 6) ?hd (cs := #[.int .i64 0, .int .i64 0, .int .i64 0]) (t := 36) ?hr ?_; (case hd => rfl); (case hg => rfl); (case hr => first | (go_simp; done) | (go_simp; rfl)); intro gb163 hg w10 hbox hb; have n0_ := Aside0.mk (below_step (by repeat (first | (with_reducible first | exact HB.out | apply below_alloc | apply pw_below_drewN | apply below_drew1) | exact HB.out)) hb); have n1_ := Aside0.mk (hbox); have n2_ := Aside0.mk ((by rw [hg]; exact (below_size (by repeat (first | (with_reducible first | exact HB.out | apply below_alloc | apply pw_below_drewN | apply below_drew1) | exact HB.out))) : w.heap.size ≤ gb163)); have n3_ := Aside0.mk ((by rw [hg]; exact (below_size (by repeat (first | (with_reducible first | exact HB.out | apply below_alloc | apply pw_below_drewN | apply below_drew1) | exact HB.out))) : w.heap.size ≤ gb163)); clear HB; have HB := n0_; have BK163 := n1_; have GW163 := n2_; have GE163 := n3_; clear n0_ n1_ n2_ n3_; clear hb hbox hg; have hcz11_0 : w10.cell? ⟨gb163, 0, none⟩ = some (.int .i64 0) := (blk_cell BK163.out 0).trans rfl; have hcz11_1 : w10.cell? ⟨gb163, 1, none⟩ = some (.int .i64 0) := (blk_cell BK163.out 1).trans rfl; have hcz11_2 : w10.cell? ⟨gb163, 2, none⟩ = some (.int .i64 0) := (blk_cell BK163.out 2).trans rfl; have hfz11_0 := blk_frozen BK163.out 0; have hfz11_1 := blk_frozen BK163.out 1; have hfz11_2 := blk_frozen BK163.out 2)); try go_wp2_with (first | ((with_reducible refine gate_dst (N := 6) rfl ?_); (try (refine gate_guard (by rfl) ?_; dsimp only)); refine box_event ?hg (N := 6) ?hd (cs := #[.int .i64 0, .int .i64 0, .int .i64 0]) (t := 36) ?hr ?_; (case hd => rfl); (case hg => rfl); (case hr => first | (go_simp; done) | (go_simp; rfl)); intro gb163 hg w10 hbox hb; have n0_ := Aside0.mk (below_step (by repeat (first | (with_reducible first | exact HB.out | apply below_alloc | apply pw_below_drewN | apply below_drew1) | exact HB.out)) hb); have n1_ := Aside0.mk (hbox); have n2_ := Aside0.mk ((by rw [hg]; exact (below_size (by repeat (first | (with_reducible first | exact HB.out | apply below_alloc | apply pw_below_drewN | apply below_drew1) | exact HB.out))) : w.heap.size ≤ gb163)); have n3_ := Aside0.mk ((by rw [hg]; exact (below_size (by repeat (first | (with_reducible first | exact HB.out | apply below_alloc | apply pw_below_drewN | apply below_drew1) | exact HB.out))) : w.heap.size ≤ gb163)); clear HB; have HB := n0_; have BK163 := n1_; have GW163 := n2_; have GE163 := n3_; clear n0_ n1_ n2_ n3_; clear hb hbox hg; have hcz11_0 : w10.cell? ⟨gb163, 0, none⟩ = some (.int .i64 0) := (blk_cell BK163.out 0).trans rfl; have hcz11_1 : w10.cell? ⟨gb163, 1, none⟩ = some (.int .i64 0) := (blk_cell BK163.out 1).trans rfl; have hcz11_2 : w10.cell? ⟨gb163, 2, none⟩ = some (.int .i64 0) := (blk_cell BK163.out 2).trans rfl; have hfz11_0 := blk_frozen BK163.out 0; have hfz11_1 := blk_frozen BK163.out 1; have hfz11_2 := blk_frozen BK163.out 2)))
                go_ret
                exact ⟨by first | rfl | (simp [errW_none, errW_some] <;> rfl) | (simp [*, errW_none, errW_some] <;> rfl), by repeat (first | (with_reducible first | exact HB.out | apply below_alloc | apply pw_below_drewN | apply below_drew1 | refine below_set ?_ GE163.out) | exact HB.out)⟩
              · rw [if_neg c9] at H
                have c9b0 : decide ((l1.length : Int) ≤ ((rd_T36 l0 x9_1).f0)) = false := decide_eq_false c9
                clear c9
                by_cases c12 : ((rd_T36 l0 x9_1).f1) < 0
                · rw [if_pos c12] at H
                  have c12b0 : decide (((rd_T36 l0 x9_1).f1) < 0) = true := decide_eq_true c12
                  clear c12
                  obtain rfl := Option.some.inj H
                  have p162 : 0 ≤ (x9_1 : Int) := of_decide_eq_true (by first | (with_reducible assumption) | assumption)
                  have q162 : x9_1 < (l0.length : Int) := of_decide_eq_true (by first | (with_reducible assumption) | assumption)
                  obtain ⟨ad162, e162, hx162_0, hx162_1, hx162_2⟩ := at_T36 HR0.out x9_1 p162 q162
                  cases e162
                  replace hx162_0 := (HB.out.cell (World.block_lt_of_cell? w _ hx162_0)).trans hx162_0
                  replace hx162_1 := (HB.out.cell (World.block_lt_of_cell? w _ hx162_1)).trans hx162_1
                  replace hx162_2 := (HB.out.cell (World.block_lt_of_cell? w _ hx162_2)).trans hx162_2
                  replace p162 := eq_true p162
                  replace q162 := eq_true q162
                  go_wp2_with (first | ((with_reducible refine gate_dst (N := 6) rfl ?_); (try (refine gate_guard (by rfl) ?_; dsimp only)); refine box_event ?hg (N := 6) ?hd (cs := #[.int .i64 0, .int .i64 0, .int .i64 0]) (t := 36) ?hr ?_; (case hd => rfl); (case hg => rfl); (case hr => first | (go_simp; done) | (go_simp; rfl)); intro gb163 hg w13 hbox hb; have n0_ := Aside0.mk (below_step (by repeat (first | (with_reducible first | exact HB.out | apply below_alloc | apply pw_below_drewN | apply below_drew1) | exact HB.out)) hb); have n1_ := Aside0.mk (hbox); have n2_ := Aside0.mk ((by rw [hg]; exact (below_size (by repeat (first | (with_reducible first | exact HB.out | apply below_alloc | apply pw_below_drewN | apply below_drew1) | exact HB.out))) : w.heap.size ≤ gb163)); have n3_ := Aside0.mk ((by rw [hg]; exact (below_size (by repeat (first | (with_reducible first | exact HB.out | apply below_alloc | apply pw_below_drewN | apply below_drew1) | exact HB.out))) : w.heap.size ≤ gb163)); clear HB; have HB := n0_; have BK163 := n1_; have GW163 := n2_; have GE163 := n3_; clear n0_ n1_ n2_ n3_; clear hb hbox hg; have hcz14_0 : w13.cell? ⟨gb163, 0, none⟩ = some (.int .i64 0) := (blk_cell BK163.out 0).trans rfl; have hcz14_1 : w13.cell? ⟨gb163, 1, none⟩ = some (.int .i64 0) := (blk_cell BK163.out 1).trans rfl; have hcz14_2 : w13.cell? ⟨gb163, 2, none⟩ = some (.int .i64 0) := (blk_cell BK163.out 2).trans rfl; have hfz14_0 := blk_frozen BK163.out 0; have hfz14_1 := blk_frozen BK163.out 1; have hfz14_2 := blk_frozen BK163.out 2))
                  repeat (go_quiet (first | ((with_reducible refine gate_dst (N := 6) rfl ?_); (try (refine gate_guard (by rfl) ?_; dsimp only)); refine box_event ?hg (N := 6) ?hd (cs := #[.int .i64 0, .int .i64 0, .int .i64 0]) (t := 36) ?hr ?_; (case hd => rfl); (case hg => rfl); (case hr => first | (go_simp; done) | (go_simp; rfl)); intro gb163 hg w13 hbox hb; have n0_ := Aside0.mk (below_step (by repeat (first | (with_reducible first | exact HB.out | apply below_alloc | apply pw_below_drewN | apply below_drew1) | exact HB.out)) hb); have n1_ := Aside0.mk (hbox); have n2_ := Aside0.mk ((by rw [hg]; exact (below_size (by repeat (first | (with_reducible first | exact HB.out | apply below_alloc | apply pw_below_drewN | apply below_drew1) | exact HB.out))) : w.heap.size ≤ gb163)); have n3_ := Aside0.mk ((by rw [hg]; exact (below_size (by repeat (first | (with_reducible first | exact HB.out | apply below_alloc | apply pw_below_drewN | apply below_drew1) | exact HB.out))) : w.heap.size ≤ gb163)); clear HB; have HB := n0_; have BK163 := n1_; have GW163 := n2_; have GE163 := n3_; clear n0_ n1_ n2_ n3_; clear hb hbox hg; have hcz14_0 : w13.cell? ⟨gb163, 0, none⟩ = some (.int .i64 0) := (blk_cell BK163.out 0).trans rfl; have hcz14_1 : w13.cell? ⟨gb163, 1, none⟩ = some (.int .i64 0) := (blk_cell BK163.out 1).trans rfl; have hcz14_2 : w13.cell? ⟨gb163, 2, none⟩ = some (.int .i64 0) := (blk_cell BK163.out 2).trans rfl; have hfz14_0 := blk_frozen BK163.out 0; have hfz14_1 := blk_frozen BK163.out 1; have hfz14_2 := blk_frozen BK163.out 2)); try go_wp2_with (first | ((with_reducible refine gate_dst (N := 6) rfl ?_); (try (refine gate_guard (by rfl) ?_; dsimp only)); refine box_event ?hg (N := 6) ?hd (cs := #[.int .i64 0, .int .i64 0, .int .i64 0]) (t := 36) ?hr ?_; (case hd => rfl); (case hg => rfl); (case hr => first | (go_simp; done) | (go_simp; rfl)); intro gb163 hg w13 hbox hb; have n0_ := Aside0.mk (below_step (by repeat (first | (with_reducible first | exact HB.out | apply below_alloc | apply pw_below_drewN | apply below_drew1) | exact HB.out)) hb); have n1_ := Aside0.mk (hbox); have n2_ := Aside0.mk ((by rw [hg]; exact (below_size (by repeat (first | (with_reducible first | exact HB.out | apply below_alloc | apply pw_below_drewN | apply below_drew1) | exact HB.out))) : w.heap.size ≤ gb163)); have n3_ := Aside0.mk ((by rw [hg]; exact (below_size (by repeat (first | (with_reducible first | exact HB.out | apply below_alloc | apply pw_below_drewN | apply below_drew1) | exact HB.out))) : w.heap.size ≤ gb163)); clear HB; have HB := n0_; have BK163 := n1_; have GW163 := n2_; have GE163 := n3_; clear n0_ n1_ n2_ n3_; clear hb hbox hg; have hcz14_0 : w13.cell? ⟨gb163, 0, none⟩ = some (.int .i64 0) := (blk_cell BK163.out 0).trans rfl; have hcz14_1 : w13.cell? ⟨gb163, 1, none⟩ = some (.int .i64 0) := (blk_cell BK163.out 1).trans rfl; have hcz14_2 : w13.cell? ⟨gb163, 2, none⟩ = some (.int .i64 0) := (blk_cell BK163.out 2).trans rfl; have hfz14_0 := blk_frozen BK163.out 0; have hfz14_1 := blk_frozen BK163.out 1; have hfz14_2 := blk_frozen BK163.out 2)))
                  go_ret
                  exact ⟨by first | rfl | (simp [errW_none, errW_some] <;> rfl) | (simp [*, errW_none, errW_some] <;> rfl), by repeat (first | (with_reducible first | exact HB.out | apply below_alloc | apply pw_below_drewN | apply below_drew1 | refine below_set ?_ GE163.out) | exact HB.out)⟩
                · rw [if_neg c12] at H
                  have c12b0 : decide (((rd_T36 l0 x9_1).f1) < 0) = false := decide_eq_false c12
                  clear c12
                  by_cases c15 : ((rd_T36 l0 x9_1).f1) ≥ (l1.length : Int)
                  · rw [if_pos c15] at H
                    have c15b0 : decide ((l1.length : Int) ≤ ((rd_T36 l0 x9_1).f1)) = true := decide_eq_true c15
                    clear c15
                    obtain rfl := Option.some.inj H
                    have p162 : 0 ≤ (x9_1 : Int) := of_decide_eq_true (by first | (with_reducible assumption) | assumption)
                    have q162 : x9_1 < (l0.length : Int) := of_decide_eq_true (by first | (with_reducible assumption) | assumption)
                    obtain ⟨ad162, e162, hx162_0, hx162_1, hx162_2⟩ := at_T36 HR0.out x9_1 p162 q162
                    cases e162
                    replace hx162_0 := (HB.out.cell (World.block_lt_of_cell? w _ hx162_0)).trans hx162_0
                    replace hx162_1 := (HB.out.cell (World.block_lt_of_cell? w _ hx162_1)).trans hx162_1
                    replace hx162_2 := (HB.out.cell (World.block_lt_of_cell? w _ hx162_2)).trans hx162_2
                    replace p162 := eq_true p162
                    replace q162 := eq_true q162
                    go_wp2_with (first | ((with_reducible refine gate_dst (N := 6) rfl ?_); (try (refine gate_guard (by rfl) ?_; dsimp only)); refine box_event ?hg (N := 6) ?hd (cs := #[.int .i64 0, .int .i64 0, .int .i64 0]) (t := 36) ?hr ?_; (case hd => rfl); (case hg => rfl); (case hr => first | (go_simp; done) | (go_simp; rfl)); intro gb163 hg w16 hbox hb; have n0_ := Aside0.mk (below_step (by repeat (first | (with_reducible first | exact HB.out | apply below_alloc | apply pw_below_drewN | apply below_drew1) | exact HB.out)) hb); have n1_ := Aside0.mk (hbox); have n2_ := Aside0.mk ((by rw [hg]; exact (below_size (by repeat (first | (with_reducible first | exact HB.out | apply below_alloc | apply pw_below_drewN | apply below_drew1) | exact HB.out))) : w.heap.size ≤ gb163)); have n3_ := Aside0.mk ((by rw [hg]; exact (below_size (by repeat (first | (with_reducible first | exact HB.out | apply below_alloc | apply pw_below_drewN | apply below_drew1) | exact HB.out))) : w.heap.size ≤ gb163)); clear HB; have HB := n0_; have BK163 := n1_; have GW163 := n2_; have GE163 := n3_; clear n0_ n1_ n2_ n3_; clear hb hbox hg; have hcz17_0 : w16.cell? ⟨gb163, 0, none⟩ = some (.int .i64 0) := (blk_cell BK163.out 0).trans rfl; have hcz17_1 : w16.cell? ⟨gb163, 1, none⟩ = some (.int .i64 0) := (blk_cell BK163.out 1).trans rfl; have hcz17_2 : w16.cell? ⟨gb163, 2, none⟩ = some (.int .i64 0) := (blk_cell BK163.out 2).trans rfl; have hfz17_0 := blk_frozen BK163.out 0; have hfz17_1 := blk_frozen BK163.out 1; have hfz17_2 := blk_frozen BK163.out 2))
                    repeat (go_quiet (first | ((with_reducible refine gate_dst (N := 6) rfl ?_); (try (refine gate_guard (by rfl) ?_; dsimp only)); refine box_event ?hg (N := 6) ?hd (cs := #[.int .i64 0, .int .i64 0, .int .i64 0]) (t := 36) ?hr ?_; (case hd => rfl); (case hg => rfl); (case hr => first | (go_simp; done) | (go_simp; rfl)); intro gb163 hg w16 hbox hb; have n0_ := Aside0.mk (below_step (by repeat (first | (with_reducible first | exact HB.out | apply below_alloc | apply pw_below_drewN | apply below_drew1) | exact HB.out)) hb); have n1_ := Aside0.mk (hbox); have n2_ := Aside0.mk ((by rw [hg]; exact (below_size (by repeat (first | (with_reducible first | exact HB.out | apply below_alloc | apply pw_below_drewN | apply below_drew1) | exact HB.out))) : w.heap.size ≤ gb163)); have n3_ := Aside0.mk ((by rw [hg]; exact (below_size (by repeat (first | (with_reducible first | exact HB.out | apply below_alloc | apply pw_below_drewN | apply below_drew1) | exact HB.out))) : w.heap.size ≤ gb163)); clear HB; have HB := n0_; have BK163 := n1_; have GW163 := n2_; have GE163 := n3_; clear n0_ n1_ n2_ n3_; clear hb hbox hg; have hcz17_0 : w16.cell? ⟨gb163, 0, none⟩ = some (.int .i64 0) := (blk_cell BK163.out 0).trans rfl; have hcz17_1 : w16.cell? ⟨gb163, 1, none⟩ = some (.int .i64 0) := (blk_cell BK163.out 1).trans rfl; have hcz17_2 : w16.cell? ⟨gb163, 2, none⟩ = some (.int .i64 0) := (blk_cell BK163.out 2).trans rfl; have hfz17_0 := blk_frozen BK163.out 0; have hfz17_1 := blk_frozen BK163.out 1; have hfz17_2 := blk_frozen BK163.out 2)); try go_wp2_with (first | ((with_reducible refine gate_dst (N := 6) rfl ?_); (try (refine gate_guard (by rfl) ?_; dsimp only)); refine box_event ?hg (N := 6) ?hd (cs := #[.int .i64 0, .int .i64 0, .int .i64 0]) (t := 36) ?hr ?_; (case hd => rfl); (case hg => rfl); (case hr => first | (go_simp; done) | (go_simp; rfl)); intro gb163 hg w16 hbox hb; have n0_ := Aside0.mk (below_step (by repeat (first | (with_reducible first | exact HB.out | apply below_alloc | apply pw_below_drewN | apply below_drew1) | exact HB.out)) hb); have n1_ := Aside0.mk (hbox); have n2_ := Aside0.mk ((by rw [hg]; exact (below_size (by repeat (first | (with_reducible first | exact HB.out | apply below_alloc | apply pw_below_drewN | apply below_drew1) | exact HB.out))) : w.heap.size ≤ gb163)); have n3_ := Aside0.mk ((by rw [hg]; exact (below_size (by repeat (first | (with_reducible first | exact HB.out | apply below_alloc | apply pw_below_drewN | apply below_drew1) | exact HB.out))) : w.heap.size ≤ gb163)); clear HB; have HB := n0_; have BK163 := n1_; have GW163 := n2_; have GE163 := n3_; clear n0_ n1_ n2_ n3_; clear hb hbox hg; have hcz17_0 : w16.cell? ⟨gb163, 0, none⟩ = some (.int .i64 0) := (blk_cell BK163.out 0).trans rfl; have hcz17_1 : w16.cell? ⟨gb163, 1, none⟩ = some (.int .i64 0) := (blk_cell BK163.out 1).trans rfl; have hcz17_2 : w16.cell? ⟨gb163, 2, none⟩ = some (.int .i64 0) := (blk_cell BK163.out 2).trans rfl; have hfz17_0 := blk_frozen BK163.out 0; have hfz17_1 := blk_frozen BK163.out 1; have hfz17_2 := blk_frozen BK163.out 2)))
                    go_ret
                    exact ⟨by first | rfl | (simp [errW_none, errW_some] <;> rfl) | (simp [*, errW_none, errW_some] <;> rfl), by repeat (first | (with_reducible first | exact HB.out | apply below_alloc | apply pw_below_drewN | apply below_drew1 | refine below_set ?_ GE163.out) | exact HB.out)⟩
                  · rw [if_neg c15] at H
                    have c15b0 : decide ((l1.length : Int) ≤ ((rd_T36 l0 x9_1).f1)) = false := decide_eq_false c15
                    clear c15
                    by_cases c18 : 0 ≤ ((rd_T36 l0 x9_1).f0)
                    · rw [if_pos c18] at H
                      have c18b0 : decide (0 ≤ ((rd_T36 l0 x9_1).f0)) = true := decide_eq_true c18
                      clear c18
                      by_cases c19 : ((rd_T36 l0 x9_1).f0) < (l1.length : Int)
                      · rw [if_pos c19] at H
                        have c19b0 : decide (((rd_T36 l0 x9_1).f0) < (l1.length : Int)) = true := decide_eq_true c19
                        clear c19
                        by_cases c20 : 0 ≤ ((rd_T36 l0 x9_1).f1)
                        · rw [if_pos c20] at H
                          have c20b0 : decide (0 ≤ ((rd_T36 l0 x9_1).f1)) = true := decide_eq_true c20
                          clear c20
                          by_cases c21 : ((rd_T36 l0 x9_1).f1) < (l1.length : Int)
                          · rw [if_pos c21] at H
                            have c21b0 : decide (((rd_T36 l0 x9_1).f1) < (l1.length : Int)) = true := decide_eq_true c21
                            clear c21
                            by_cases c22 : (wrap64 ((rd l1 ((rd_T36 l0 x9_1).f0)) - (rd l1 ((rd_T36 l0 x9_1).f1)))) > ((rd_T36 l0 x9_1).f2)
                            · rw [if_pos c22] at H
                              have c22b0 : decide (((rd_T36 l0 x9_1).f2) < (wrap64 ((rd l1 ((rd_T36 l0 x9_1).f0)) - (rd l1 ((rd_T36 l0 x9_1).f1))))) = true := decide_eq_true c22
                              clear c22
                              obtain rfl := Option.some.inj H
                              have p162 : 0 ≤ (x9_1 : Int) := of_decide_eq_true (by first | (with_reducible assumption) | assumption)
                              have q162 : x9_1 < (l0.length : Int) := of_decide_eq_true (by first | (with_reducible assumption) | assumption)
                              obtain ⟨ad162, e162, hx162_0, hx162_1, hx162_2⟩ := at_T36 HR0.out x9_1 p162 q162
                              cases e162
                              replace hx162_0 := (HB.out.cell (World.block_lt_of_cell? w _ hx162_0)).trans hx162_0
                              replace hx162_1 := (HB.out.cell (World.block_lt_of_cell? w _ hx162_1)).trans hx162_1
                              replace hx162_2 := (HB.out.cell (World.block_lt_of_cell? w _ hx162_2)).trans hx162_2
                              replace p162 := eq_true p162
                              replace q162 := eq_true q162
                              go_wp2_with (first | ((with_reducible refine gate_dst (N := 6) rfl ?_); (try (refine gate_guard (by rfl) ?_; dsimp only)); refine box_event ?hg (N := 6) ?hd (cs := #[.int .i64 0, .int .i64 0, .int .i64 0]) (t := 36) ?hr ?_; (case hd => rfl); (case hg => rfl); (case hr => first | (go_simp; done) | (go_simp; rfl)); intro gb163 hg w23 hbox hb; have n0_ := Aside0.mk (below_step (by repeat (first | (with_reducible first | exact HB.out | apply below_alloc | apply pw_below_drewN | apply below_drew1) | exact HB.out)) hb); have n1_ := Aside0.mk (hbox); have n2_ := Aside0.mk ((by rw [hg]; exact (below_size (by repeat (first | (with_reducible first | exact HB.out | apply below_alloc | apply pw_below_drewN | apply below_drew1) | exact HB.out))) : w.heap.size ≤ gb163)); have n3_ := Aside0.mk ((by rw [hg]; exact (below_size (by repeat (first | (with_reducible first | exact HB.out | apply below_alloc | apply pw_below_drewN | apply below_drew1) | exact HB.out))) : w.heap.size ≤ gb163)); clear HB; have HB := n0_; have BK163 := n1_; have GW163 := n2_; have GE163 := n3_; clear n0_ n1_ n2_ n3_; clear hb hbox hg; have hcz24_0 : w23.cell? ⟨gb163, 0, none⟩ = some (.int .i64 0) := (blk_cell BK163.out 0).trans rfl; have hcz24_1 : w23.cell? ⟨gb163, 1, none⟩ = some (.int .i64 0) := (blk_cell BK163.out 1).trans rfl; have hcz24_2 : w23.cell? ⟨gb163, 2, none⟩ = some (.int .i64 0) := (blk_cell BK163.out 2).trans rfl; have hfz24_0 := blk_frozen BK163.out 0; have hfz24_1 := blk_frozen BK163.out 1; have hfz24_2 := blk_frozen BK163.out 2; have p164 : 0 ≤ (((rd_T36 l0 x9_1).f0) : Int) := of_decide_eq_true (by first | (with_reducible assumption) | assumption); have q164 : ((rd_T36 l0 x9_1).f0) < (l1.length : Int) := of_decide_eq_true (by first | (with_reducible assumption) | assumption); obtain ⟨ad164, e164, hx164_0⟩ := Kd.at_int HR1.out ((rd_T36 l0 x9_1).f0) p164 q164; cases e164; have hn164_0 : ad164.block ≠ gb163 := Nat.ne_of_lt (Nat.lt_of_lt_of_le (by have := World.block_lt_of_cell? _ _ hx164_0; first | rwa [add_block] at this | exact this) GW163.out); have hn164_1 : ad164.block ≠ gb163 := Nat.ne_of_lt (Nat.lt_of_lt_of_le (by have := World.block_lt_of_cell? _ _ hx164_0; first | rwa [add_block] at this | exact this) GW163.out); have hn164_2 : ad164.block ≠ gb163 := Nat.ne_of_lt (Nat.lt_of_lt_of_le (by have := World.block_lt_of_cell? _ _ hx164_0; first | rwa [add_block] at this | exact this) GW163.out); replace hx164_0 := (HB.out.cell (World.block_lt_of_cell? w _ hx164_0)).trans hx164_0; replace hx164_0 := (cell_far (p := ⟨gb163, 0, none⟩) (by first | (rw [add_block]; exact hn164_0) | (show (Addr.add _ _).block ≠ _; rw [add_block]; exact hn164_0) | exact hn164_0) (.int .i64 ((rd_T36 l0 x9_1).f0))).trans hx164_0; replace hx164_0 := (cell_far (p := ⟨gb163, 1, none⟩) (by first | (rw [add_block]; exact hn164_1) | (show (Addr.add _ _).block ≠ _; rw [add_block]; exact hn164_1) | exact hn164_1) (.int .i64 ((rd_T36 l0 x9_1).f1))).trans hx164_0; replace hx164_0 := (cell_far (p := ⟨gb163, 2, none⟩) (by first | (rw [add_block]; exact hn164_2) | (show (Addr.add _ _).block ≠ _; rw [add_block]; exact hn164_2) | exact hn164_2) (.int .i64 ((rd_T36 l0 x9_1).f2))).trans hx164_0; (try have hy164_0 := fun (n_ : Nat) => (show (((((w23.drewN n_).setCell ⟨gb163, 0, none⟩ (.int .i64 ((rd_T36 l0 x9_1).f0))).setCell ⟨gb163, 1, none⟩ (.int .i64 ((rd_T36 l0 x9_1).f1))).setCell ⟨gb163, 2, none⟩ (.int .i64 ((rd_T36 l0 x9_1).f2)))).cell? _ = some _ from hx164_0)); clear hn164_0; clear hn164_1; clear hn164_2; replace p164 := eq_true p164; replace q164 := eq_true q164; have p165 : 0 ≤ (((rd_T36 l0 x9_1).f1) : Int) := of_decide_eq_true (by first | (with_reducible assumption) | assumption); have q165 : ((rd_T36 l0 x9_1).f1) < (l1.length : Int) := of_decide_eq_true (by first | (with_reducible assumption) | assumption); obtain ⟨ad165, e165, hx165_0⟩ := Kd.at_int HR1.out ((rd_T36 l0 x9_1).f1) p165 q165; obtain rfl : ad164 = ad165 := (by injection e165); have hn165_0 : ad164.block ≠ gb163 := Nat.ne_of_lt (Nat.lt_of_lt_of_le (by have := World.block_lt_of_cell? _ _ hx165_0; first | rwa [add_block] at this | exact this) GW163.out); have hn165_1 : ad164.block ≠ gb163 := Nat.ne_of_lt (Nat.lt_of_lt_of_le (by have := World.block_lt_of_cell? _ _ hx165_0; first | rwa [add_block] at this | exact this) GW163.out); have hn165_2 : ad164.block ≠ gb163 := Nat.ne_of_lt (Nat.lt_of_lt_of_le (by have := World.block_lt_of_cell? _ _ hx165_0; first | rwa [add_block] at this | exact this) GW163.out); replace hx165_0 := (HB.out.cell (World.block_lt_of_cell? w _ hx165_0)).trans hx165_0; replace hx165_0 := (cell_far (p := ⟨gb163, 0, none⟩) (by first | (rw [add_block]; exact hn165_0) | (show (Addr.add _ _).block ≠ _; rw [add_block]; exact hn165_0) | exact hn165_0) (.int .i64 ((rd_T36 l0 x9_1).f0))).trans hx165_0; replace hx165_0 := (cell_far (p := ⟨gb163, 1, none⟩) (by first | (rw [add_block]; exact hn165_1) | (show (Addr.add _ _).block ≠ _; rw [add_block]; exact hn165_1) | exact hn165_1) (.int .i64 ((rd_T36 l0 x9_1).f1))).trans hx165_0; replace hx165_0 := (cell_far (p := ⟨gb163, 2, none⟩) (by first | (rw [add_block]; exact hn165_2) | (show (Addr.add _ _).block ≠ _; rw [add_block]; exact hn165_2) | exact hn165_2) (.int .i64 ((rd_T36 l0 x9_1).f2))).trans hx165_0; (try have hy165_0 := fun (n_ : Nat) => (show (((((w23.drewN n_).setCell ⟨gb163, 0, none⟩ (.int .i64 ((rd_T36 l0 x9_1).f0))).setCell ⟨gb163, 1, none⟩ (.int .i64 ((rd_T36 l0 x9_1).f1))).setCell ⟨gb163, 2, none⟩ (.int .i64 ((rd_T36 l0 x9_1).f2)))).cell? _ = some _ from hx165_0)); clear hn165_0; clear hn165_1; clear hn165_2; replace p165 := eq_true p165; replace q165 := eq_true q165))
                              repeat (go_quiet (first | ((with_reducible refine gate_dst (N := 6) rfl ?_); (try (refine gate_guard (by rfl) ?_; dsimp only)); refine box_event ?hg (N := 6) ?hd (cs := #[.int .i64 0, .int .i64 0, .int .i64 0]) (t := 36) ?hr ?_; (case hd => rfl); (case hg => rfl); (case hr => first | (go_simp; done) | (go_simp; rfl)); intro gb163 hg w23 hbox hb; have n0_ := Aside0.mk (below_step (by repeat (first | (with_reducible first | exact HB.out | apply below_alloc | apply pw_below_drewN | apply below_drew1) | exact HB.out)) hb); have n1_ := Aside0.mk (hbox); have n2_ := Aside0.mk ((by rw [hg]; exact (below_size (by repeat (first | (with_reducible first | exact HB.out | apply below_alloc | apply pw_below_drewN | apply below_drew1) | exact HB.out))) : w.heap.size ≤ gb163)); have n3_ := Aside0.mk ((by rw [hg]; exact (below_size (by repeat (first | (with_reducible first | exact HB.out | apply below_alloc | apply pw_below_drewN | apply below_drew1) | exact HB.out))) : w.heap.size ≤ gb163)); clear HB; have HB := n0_; have BK163 := n1_; have GW163 := n2_; have GE163 := n3_; clear n0_ n1_ n2_ n3_; clear hb hbox hg; have hcz24_0 : w23.cell? ⟨gb163, 0, none⟩ = some (.int .i64 0) := (blk_cell BK163.out 0).trans rfl; have hcz24_1 : w23.cell? ⟨gb163, 1, none⟩ = some (.int .i64 0) := (blk_cell BK163.out 1).trans rfl; have hcz24_2 : w23.cell? ⟨gb163, 2, none⟩ = some (.int .i64 0) := (blk_cell BK163.out 2).trans rfl; have hfz24_0 := blk_frozen BK163.out 0; have hfz24_1 := blk_frozen BK163.out 1; have hfz24_2 := blk_frozen BK163.out 2; have p164 : 0 ≤ (((rd_T36 l0 x9_1).f0) : Int) := of_decide_eq_true (by first | (with_reducible assumption) | assumption); have q164 : ((rd_T36 l0 x9_1).f0) < (l1.length : Int) := of_decide_eq_true (by first | (with_reducible assumption) | assumption); obtain ⟨ad164, e164, hx164_0⟩ := Kd.at_int HR1.out ((rd_T36 l0 x9_1).f0) p164 q164; cases e164; have hn164_0 : ad164.block ≠ gb163 := Nat.ne_of_lt (Nat.lt_of_lt_of_le (by have := World.block_lt_of_cell? _ _ hx164_0; first | rwa [add_block] at this | exact this) GW163.out); have hn164_1 : ad164.block ≠ gb163 := Nat.ne_of_lt (Nat.lt_of_lt_of_le (by have := World.block_lt_of_cell? _ _ hx164_0; first | rwa [add_block] at this | exact this) GW163.out); have hn164_2 : ad164.block ≠ gb163 := Nat.ne_of_lt (Nat.lt_of_lt_of_le (by have := World.block_lt_of_cell? _ _ hx164_0; first | rwa [add_block] at this | exact this) GW163.out); replace hx164_0 := (HB.out.cell (World.block_lt_of_cell? w _ hx164_0)).trans hx164_0; replace hx164_0 := (cell_far (p := ⟨gb163, 0, none⟩) (by first | (rw [add_block]; exact hn164_0) | (show (Addr.add _ _).block ≠ _; rw [add_block]; exact hn164_0) | exact hn164_0) (.int .i64 ((rd_T36 l0 x9_1).f0))).trans hx164_0; replace hx164_0 := (cell_far (p := ⟨gb163, 1, none⟩) (by first | (rw [add_block]; exact hn164_1) | (show (Addr.add _ _).block ≠ _; rw [add_block]; exact hn164_1) | exact hn164_1) (.int .i64 ((rd_T36 l0 x9_1).f1))).trans hx164_0; replace hx164_0 := (cell_far (p := ⟨gb163, 2, none⟩) (by first | (rw [add_block]; exact hn164_2) | (show (Addr.add _ _).block ≠ _; rw [add_block]; exact hn164_2) | exact hn164_2) (.int .i64 ((rd_T36 l0 x9_1).f2))).trans hx164_0; (try have hy164_0 := fun (n_ : Nat) => (show (((((w23.drewN n_).setCell ⟨gb163, 0, none⟩ (.int .i64 ((rd_T36 l0 x9_1).f0))).setCell ⟨gb163, 1, none⟩ (.int .i64 ((rd_T36 l0 x9_1).f1))).setCell ⟨gb163, 2, none⟩ (.int .i64 ((rd_T36 l0 x9_1).f2)))).cell? _ = some _ from hx164_0)); clear hn164_0; clear hn164_1; clear hn164_2; replace p164 := eq_true p164; replace q164 := eq_true q164; have p165 : 0 ≤ (((rd_T36 l0 x9_1).f1) : Int) := of_decide_eq_true (by first | (with_reducible assumption) | assumption); have q165 : ((rd_T36 l0 x9_1).f1) < (l1.length : Int) := of_decide_eq_true (by first | (with_reducible assumption) | assumption); obtain ⟨ad165, e165, hx165_0⟩ := Kd.at_int HR1.out ((rd_T36 l0 x9_1).f1) p165 q165; obtain rfl : ad164 = ad165 := (by injection e165); have hn165_0 : ad164.block ≠ gb163 := Nat.ne_of_lt (Nat.lt_of_lt_of_le (by have := World.block_lt_of_cell? _ _ hx165_0; first | rwa [add_block] at this | exact this) GW163.out); have hn165_1 : ad164.block ≠ gb163 := Nat.ne_of_lt (Nat.lt_of_lt_of_le (by have := World.block_lt_of_cell? _ _ hx165_0; first | rwa [add_block] at this | exact this) GW163.out); have hn165_2 : ad164.block ≠ gb163 := Nat.ne_of_lt (Nat.lt_of_lt_of_le (by have := World.block_lt_of_cell? _ _ hx165_0; first | rwa [add_block] at this | exact this) GW163.out); replace hx165_0 := (HB.out.cell (World.block_lt_of_cell? w _ hx165_0)).trans hx165_0; replace hx165_0 := (cell_far (p := ⟨gb163, 0, none⟩) (by first | (rw [add_block]; exact hn165_0) | (show (Addr.add _ _).block ≠ _; rw [add_block]; exact hn165_0) | exact hn165_0) (.int .i64 ((rd_T36 l0 x9_1).f0))).trans hx165_0; replace hx165_0 := (cell_far (p := ⟨gb163, 1, none⟩) (by first | (rw [add_block]; exact hn165_1) | (show (Addr.add _ _).block ≠ _; rw [add_block]; exact hn165_1) | exact hn165_1) (.int .i64 ((rd_T36 l0 x9_1).f1))).trans hx165_0; replace hx165_0 := (cell_far (p := ⟨gb163, 2, none⟩) (by first | (rw [add_block]; exact hn165_2) | (show (Addr.add _ _).block ≠ _; rw [add_block]; exact hn165_2) | exact hn165_2) (.int .i64 ((rd_T36 l0 x9_1).f2))).trans hx165_0; (try have hy165_0 := fun (n_ : Nat) => (show (((((w23.drewN n_).setCell ⟨gb163, 0, none⟩ (.int .i64 ((rd_T36 l0 x9_1).f0))).setCell ⟨gb163, 1, none⟩ (.int .i64 ((rd_T36 l0 x9_1).f1))).setCell ⟨gb163, 2, none⟩ (.int .i64 ((rd_T36 l0 x9_1).f2)))).cell? _ = some _ from hx165_0)); clear hn165_0; clear hn165_1; clear hn165_2; replace p165 := eq_true p165; replace q165 := eq_true q165)); try go_wp2_with (first | ((with_reducible refine gate_dst (N := 6) rfl ?_); (try (refine gate_guard (by rfl) ?_; dsimp only)); refine box_event ?hg (N := 6) ?hd (cs := #[.int .i64 0, .int .i64 0, .int .i64 0]) (t := 36) ?hr ?_; (case hd => rfl); (case hg => rfl); (case hr => first | (go_simp; done) | (go_simp; rfl)); intro gb163 hg w23 hbox hb; have n0_ := Aside0.mk (below_step (by repeat (first | (with_reducible first | exact HB.out | apply below_alloc | apply pw_below_drewN | apply below_drew1) | exact HB.out)) hb); have n1_ := Aside0.mk (hbox); have n2_ := Aside0.mk ((by rw [hg]; exact (below_size (by repeat (first | (with_reducible first | exact HB.out | apply below_alloc | apply pw_below_drewN | apply below_drew1) | exact HB.out))) : w.heap.size ≤ gb163)); have n3_ := Aside0.mk ((by rw [hg]; exact (below_size (by repeat (first | (with_reducible first | exact HB.out | apply below_alloc | apply pw_below_drewN | apply below_drew1) | exact HB.out))) : w.heap.size ≤ gb163)); clear HB; have HB := n0_; have BK163 := n1_; have GW163 := n2_; have GE163 := n3_; clear n0_ n1_ n2_ n3_; clear hb hbox hg; have hcz24_0 : w23.cell? ⟨gb163, 0, none⟩ = some (.int .i64 0) := (blk_cell BK163.out 0).trans rfl; have hcz24_1 : w23.cell? ⟨gb163, 1, none⟩ = some (.int .i64 0) := (blk_cell BK163.out 1).trans rfl; have hcz24_2 : w23.cell? ⟨gb163, 2, none⟩ = some (.int .i64 0) := (blk_cell BK163.out 2).trans rfl; have hfz24_0 := blk_frozen BK163.out 0; have hfz24_1 := blk_frozen BK163.out 1; have hfz24_2 := blk_frozen BK163.out 2; have p164 : 0 ≤ (((rd_T36 l0 x9_1).f0) : Int) := of_decide_eq_true (by first | (with_reducible assumption) | assumption); have q164 : ((rd_T36 l0 x9_1).f0) < (l1.length : Int) := of_decide_eq_true (by first | (with_reducible assumption) | assumption); obtain ⟨ad164, e164, hx164_0⟩ := Kd.at_int HR1.out ((rd_T36 l0 x9_1).f0) p164 q164; cases e164; have hn164_0 : ad164.block ≠ gb163 := Nat.ne_of_lt (Nat.lt_of_lt_of_le (by have := World.block_lt_of_cell? _ _ hx164_0; first | rwa [add_block] at this | exact this) GW163.out); have hn164_1 : ad164.block ≠ gb163 := Nat.ne_of_lt (Nat.lt_of_lt_of_le (by have := World.block_lt_of_cell? _ _ hx164_0; first | rwa [add_block] at this | exact this) GW163.out); have hn164_2 : ad164.block ≠ gb163 := Nat.ne_of_lt (Nat.lt_of_lt_of_le (by have := World.block_lt_of_cell? _ _ hx164_0; first | rwa [add_block] at this | exact this) GW163.out); replace hx164_0 := (HB.out.cell (World.block_lt_of_cell? w _ hx164_0)).trans hx164_0; replace hx164_0 := (cell_far (p := ⟨gb163, 0, none⟩) (by first | (rw [add_block]; exact hn164_0) | (show (Addr.add _ _).block ≠ _; rw [add_block]; exact hn164_0) | exact hn164_0) (.int .i64 ((rd_T36 l0 x9_1).f0))).trans hx164_0; replace hx164_0 := (cell_far (p := ⟨gb163, 1, none⟩) (by first | (rw [add_block]; exact hn164_1) | (show (Addr.add _ _).block ≠ _; rw [add_block]; exact hn164_1) | exact hn164_1) (.int .i64 ((rd_T36 l0 x9_1).f1))).trans hx164_0; replace hx164_0 := (cell_far (p := ⟨gb163, 2, none⟩) (by first | (rw [add_block]; exact hn164_2) | (show (Addr.add _ _).block ≠ _; rw [add_block]; exact hn164_2) | exact hn164_2) (.int .i64 ((rd_T36 l0 x9_1).f2))).trans hx164_0; (try have hy164_0 := fun (n_ : Nat) => (show (((((w23.drewN n_).setCell ⟨gb163, 0, none⟩ (.int .i64 ((rd_T36 l0 x9_1).f0))).setCell ⟨gb163, 1, none⟩ (.int .i64 ((rd_T36 l0 x9_1).f1))).setCell ⟨gb163, 2, none⟩ (.int .i64 ((rd_T36 l0 x9_1).f2)))).cell? _ = some _ from hx164_0)); clear hn164_0; clear hn164_1; clear hn164_2; replace p164 := eq_true p164; replace q164 := eq_true q164; have p165 : 0 ≤ (((rd_T36 l0 x9_1).f1) : Int) := of_decide_eq_true (by first | (with_reducible assumption) | assumption); have q165 : ((rd_T36 l0 x9_1).f1) < (l1.length : Int) := of_decide_eq_true (by first | (with_reducible assumption) | assumption); obtain ⟨ad165, e165, hx165_0⟩ := Kd.at_int HR1.out ((rd_T36 l0 x9_1).f1) p165 q165; obtain rfl : ad164 = ad165 := (by injection e165); have hn165_0 : ad164.block ≠ gb163 := Nat.ne_of_lt (Nat.lt_of_lt_of_le (by have := World.block_lt_of_cell? _ _ hx165_0; first | rwa [add_block] at this | exact this) GW163.out); have hn165_1 : ad164.block ≠ gb163 := Nat.ne_of_lt (Nat.lt_of_lt_of_le (by have := World.block_lt_of_cell? _ _ hx165_0; first | rwa [add_block] at this | exact this) GW163.out); have hn165_2 : ad164.block ≠ gb163 := Nat.ne_of_lt (Nat.lt_of_lt_of_le (by have := World.block_lt_of_cell? _ _ hx165_0; first | rwa [add_block] at this | exact this) GW163.out); replace hx165_0 := (HB.out.cell (World.block_lt_of_cell? w _ hx165_0)).trans hx165_0; replace hx165_0 := (cell_far (p := ⟨gb163, 0, none⟩) (by first | (rw [add_block]; exact hn165_0) | (show (Addr.add _ _).block ≠ _; rw [add_block]; exact hn165_0) | exact hn165_0) (.int .i64 ((rd_T36 l0 x9_1).f0))).trans hx165_0; replace hx165_0 := (cell_far (p := ⟨gb163, 1, none⟩) (by first | (rw [add_block]; exact hn165_1) | (show (Addr.add _ _).block ≠ _; rw [add_block]; exact hn165_1) | exact hn165_1) (.int .i64 ((rd_T36 l0 x9_1).f1))).trans hx165_0; replace hx165_0 := (cell_far (p := ⟨gb163, 2, none⟩) (by first | (rw [add_block]; exact hn165_2) | (show (Addr.add _ _).block ≠ _; rw [add_block]; exact hn165_2) | exact hn165_2) (.int .i64 ((rd_T36 l0 x9_1).f2))).trans hx165_0; (try have hy165_0 := fun (n_ : Nat) => (show (((((w23.drewN n_).setCell ⟨gb163, 0, none⟩ (.int .i64 ((rd_T36 l0 x9_1).f0))).setCell ⟨gb163, 1, none⟩ (.int .i64 ((rd_T36 l0 x9_1).f1))).setCell ⟨gb163, 2, none⟩ (.int .i64 ((rd_T36 l0 x9_1).f2)))).cell? _ = some _ from hx165_0)); clear hn165_0; clear hn165_1; clear hn165_2; replace p165 := eq_true p165; replace q165 := eq_true q165)))
                              go_ret
                              exact ⟨by first | rfl | (simp [errW_none, errW_some] <;> rfl) | (simp [*, errW_none, errW_some] <;> rfl), by repeat (first | (with_reducible first | exact HB.out | apply below_alloc | apply pw_below_drewN | apply below_drew1 | refine below_set ?_ GE163.out) | exact HB.out)⟩
                            · rw [if_neg c22] at H
                              have c22b0 : decide (((rd_T36 l0 x9_1).f2) < (wrap64 ((rd l1 ((rd_T36 l0 x9_1).f0)) - (rd l1 ((rd_T36 l0 x9_1).f1))))) = false := decide_eq_false c22
                              clear c22
                              have H' := Aside0.mk H
                              clear H
                              have p162 : 0 ≤ (x9_1 : Int) := of_decide_eq_true (by first | (with_reducible assumption) | assumption)
                              have q162 : x9_1 < (l0.length : Int) := of_decide_eq_true (by first | (with_reducible assumption) | assumption)
                              obtain ⟨ad162, e162, hx162_0, hx162_1, hx162_2⟩ := at_T36 HR0.out x9_1 p162 q162
                              cases e162
                              replace hx162_0 := (HB.out.cell (World.block_lt_of_cell? w _ hx162_0)).trans hx162_0
                              replace hx162_1 := (HB.out.cell (World.block_lt_of_cell? w _ hx162_1)).trans hx162_1
                              replace hx162_2 := (HB.out.cell (World.block_lt_of_cell? w _ hx162_2)).trans hx162_2
                              replace p162 := eq_true p162
                              replace q162 := eq_true q162
                              go_wp2_with (first | ((with_reducible refine gate_dst (N := 6) rfl ?_); (try (refine gate_guard (by rfl) ?_; dsimp only)); refine box_event ?hg (N := 6) ?hd (cs := #[.int .i64 0, .int .i64 0, .int .i64 0]) (t := 36) ?hr ?_; (case hd => rfl); (case hg => rfl); (case hr => first | (go_simp; done) | (go_simp; rfl)); intro gb163 hg w25 hbox hb; have n0_ := Aside0.mk (below_step (by repeat (first | (with_reducible first | exact HB.out | apply below_alloc | apply pw_below_drewN | apply below_drew1) | exact HB.out)) hb); have n1_ := Aside0.mk (hbox); have n2_ := Aside0.mk ((by rw [hg]; exact (below_size (by repeat (first | (with_reducible first | exact HB.out | apply below_alloc | apply pw_below_drewN | apply below_drew1) | exact HB.out))) : w.heap.size ≤ gb163)); have n3_ := Aside0.mk ((by rw [hg]; exact (below_size (by repeat (first | (with_reducible first | exact HB.out | apply below_alloc | apply pw_below_drewN | apply below_drew1) | exact HB.out))) : w.heap.size ≤ gb163)); clear HB; have HB := n0_; have BK163 := n1_; have GW163 := n2_; have GE163 := n3_; clear n0_ n1_ n2_ n3_; clear hb hbox hg; have hcz26_0 : w25.cell? ⟨gb163, 0, none⟩ = some (.int .i64 0) := (blk_cell BK163.out 0).trans rfl; have hcz26_1 : w25.cell? ⟨gb163, 1, none⟩ = some (.int .i64 0) := (blk_cell BK163.out 1).trans rfl; have hcz26_2 : w25.cell? ⟨gb163, 2, none⟩ = some (.int .i64 0) := (blk_cell BK163.out 2).trans rfl; have hfz26_0 := blk_frozen BK163.out 0; have hfz26_1 := blk_frozen BK163.out 1; have hfz26_2 := blk_frozen BK163.out 2; have p164 : 0 ≤ (((rd_T36 l0 x9_1).f0) : Int) := of_decide_eq_true (by first | (with_reducible assumption) | assumption); have q164 : ((rd_T36 l0 x9_1).f0) < (l1.length : Int) := of_decide_eq_true (by first | (with_reducible assumption) | assumption); obtain ⟨ad164, e164, hx164_0⟩ := Kd.at_int HR1.out ((rd_T36 l0 x9_1).f0) p164 q164; cases e164; have hn164_0 : ad164.block ≠ gb163 := Nat.ne_of_lt (Nat.lt_of_lt_of_le (by have := World.block_lt_of_cell? _ _ hx164_0; first | rwa [add_block] at this | exact this) GW163.out); have hn164_1 : ad164.block ≠ gb163 := Nat.ne_of_lt (Nat.lt_of_lt_of_le (by have := World.block_lt_of_cell? _ _ hx164_0; first | rwa [add_block] at this | exact this) GW163.out); have hn164_2 : ad164.block ≠ gb163 := Nat.ne_of_lt (Nat.lt_of_lt_of_le (by have := World.block_lt_of_cell? _ _ hx164_0; first | rwa [add_block] at this | exact this) GW163.out); replace hx164_0 := (HB.out.cell (World.block_lt_of_cell? w _ hx164_0)).trans hx164_0; replace hx164_0 := (cell_far (p := ⟨gb163, 0, none⟩) (by first | (rw [add_block]; exact hn164_0) | (show (Addr.add _ _).block ≠ _; rw [add_block]; exact hn164_0) | exact hn164_0) (.int .i64 ((rd_T36 l0 x9_1).f0))).trans hx164_0; replace hx164_0 := (cell_far (p := ⟨gb163, 1, none⟩) (by first | (rw [add_block]; exact hn164_1) | (show (Addr.add _ _).block ≠ _; rw [add_block]; exact hn164_1) | exact hn164_1) (.int .i64 ((rd_T36 l0 x9_1).f1))).trans hx164_0; replace hx164_0 := (cell_far (p := ⟨gb163, 2, none⟩) (by first | (rw [add_block]; exact hn164_2) | (show (Addr.add _ _).block ≠ _; rw [add_block]; exact hn164_2) | exact hn164_2) (.int .i64 ((rd_T36 l0 x9_1).f2))).trans hx164_0; (try have hy164_0 := fun (n_ : Nat) => (show (((((w25.drewN n_).setCell ⟨gb163, 0, none⟩ (.int .i64 ((rd_T36 l0 x9_1).f0))).setCell ⟨gb163, 1, none⟩ (.int .i64 ((rd_T36 l0 x9_1).f1))).setCell ⟨gb163, 2, none⟩ (.int .i64 ((rd_T36 l0 x9_1).f2)))).cell? _ = some _ from hx164_0)); clear hn164_0; clear hn164_1; clear hn164_2; replace p164 := eq_true p164; replace q164 := eq_true q164; have p165 : 0 ≤ (((rd_T36 l0 x9_1).f1) : Int) := of_decide_eq_true (by first | (with_reducible assumption) | assumption); have q165 : ((rd_T36 l0 x9_1).f1) < (l1.length : Int) := of_decide_eq_true (by first | (with_reducible assumption) | assumption); obtain ⟨ad165, e165, hx165_0⟩ := Kd.at_int HR1.out ((rd_T36 l0 x9_1).f1) p165 q165; obtain rfl : ad164 = ad165 := (by injection e165); have hn165_0 : ad164.block ≠ gb163 := Nat.ne_of_lt (Nat.lt_of_lt_of_le (by have := World.block_lt_of_cell? _ _ hx165_0; first | rwa [add_block] at this | exact this) GW163.out); have hn165_1 : ad164.block ≠ gb163 := Nat.ne_of_lt (Nat.lt_of_lt_of_le (by have := World.block_lt_of_cell? _ _ hx165_0; first | rwa [add_block] at this | exact this) GW163.out); have hn165_2 : ad164.block ≠ gb163 := Nat.ne_of_lt (Nat.lt_of_lt_of_le (by have := World.block_lt_of_cell? _ _ hx165_0; first | rwa [add_block] at this | exact this) GW163.out); replace hx165_0 := (HB.out.cell (World.block_lt_of_cell? w _ hx165_0)).trans hx165_0; replace hx165_0 := (cell_far (p := ⟨gb163, 0, none⟩) (by first | (rw [add_block]; exact hn165_0) | (show (Addr.add _ _).block ≠ _; rw [add_block]; exact hn165_0) | exact hn165_0) (.int .i64 ((rd_T36 l0 x9_1).f0))).trans hx165_0; replace hx165_0 := (cell_far (p := ⟨gb163, 1, none⟩) (by first | (rw [add_block]; exact hn165_1) | (show (Addr.add _ _).block ≠ _; rw [add_block]; exact hn165_1) | exact hn165_1) (.int .i64 ((rd_T36 l0 x9_1).f1))).trans hx165_0; replace hx165_0 := (cell_far (p := ⟨gb163, 2, none⟩) (by first | (rw [add_block]; exact hn165_2) | (show (Addr.add _ _).block ≠ _; rw [add_block]; exact hn165_2) | exact hn165_2) (.int .i64 ((rd_T36 l0 x9_1).f2))).trans hx165_0; (try have hy165_0 := fun (n_ : Nat) => (show (((((w25.drewN n_).setCell ⟨gb163, 0, none⟩ (.int .i64 ((rd_T36 l0 x9_1).f0))).setCell ⟨gb163, 1, none⟩ (.int .i64 ((rd_T36 l0 x9_1).f1))).setCell ⟨gb163, 2, none⟩ (.int .i64 ((rd_T36 l0 x9_1).f2)))).cell? _ = some _ from hx165_0)); clear hn165_0; clear hn165_1; clear hn165_2; replace p165 := eq_true p165; replace q165 := eq_true q165))
                              repeat (go_quiet (first | ((with_reducible refine gate_dst (N := 6) rfl ?_); (try (refine gate_guard (by rfl) ?_; dsimp only)); refine box_event ?hg (N := 6) ?hd (cs := #[.int .i64 0, .int .i64 0, .int .i64 0]) (t := 36) ?hr ?_; (case hd => rfl); (case hg => rfl); (case hr => first | (go_simp; done) | (go_simp; rfl)); intro gb163 hg w25 hbox hb; have n0_ := Aside0.mk (below_step (by repeat (first | (with_reducible first | exact HB.out | apply below_alloc | apply pw_below_drewN | apply below_drew1) | exact HB.out)) hb); have n1_ := Aside0.mk (hbox); have n2_ := Aside0.mk ((by rw [hg]; exact (below_size (by repeat (first | (with_reducible first | exact HB.out | apply below_alloc | apply pw_below_drewN | apply below_drew1) | exact HB.out))) : w.heap.size ≤ gb163)); have n3_ := Aside0.mk ((by rw [hg]; exact (below_size (by repeat (first | (with_reducible first | exact HB.out | apply below_alloc | apply pw_below_drewN | apply below_drew1) | exact HB.out))) : w.heap.size ≤ gb163)); clear HB; have HB := n0_; have BK163 := n1_; have GW163 := n2_; have GE163 := n3_; clear n0_ n1_ n2_ n3_; clear hb hbox hg; have hcz26_0 : w25.cell? ⟨gb163, 0, none⟩ = some (.int .i64 0) := (blk_cell BK163.out 0).trans rfl; have hcz26_1 : w25.cell? ⟨gb163, 1, none⟩ = some (.int .i64 0) := (blk_cell BK163.out 1).trans rfl; have hcz26_2 : w25.cell? ⟨gb163, 2, none⟩ = some (.int .i64 0) := (blk_cell BK163.out 2).trans rfl; have hfz26_0 := blk_frozen BK163.out 0; have hfz26_1 := blk_frozen BK163.out 1; have hfz26_2 := blk_frozen BK163.out 2; have p164 : 0 ≤ (((rd_T36 l0 x9_1).f0) : Int) := of_decide_eq_true (by first | (with_reducible assumption) | assumption); have q164 : ((rd_T36 l0 x9_1).f0) < (l1.length : Int) := of_decide_eq_true (by first | (with_reducible assumption) | assumption); obtain ⟨ad164, e164, hx164_0⟩ := Kd.at_int HR1.out ((rd_T36 l0 x9_1).f0) p164 q164; cases e164; have hn164_0 : ad164.block ≠ gb163 := Nat.ne_of_lt (Nat.lt_of_lt_of_le (by have := World.block_lt_of_cell? _ _ hx164_0; first | rwa [add_block] at this | exact this) GW163.out); have hn164_1 : ad164.block ≠ gb163 := Nat.ne_of_lt (Nat.lt_of_lt_of_le (by have := World.block_lt_of_cell? _ _ hx164_0; first | rwa [add_block] at this | exact this) GW163.out); have hn164_2 : ad164.block ≠ gb163 := Nat.ne_of_lt (Nat.lt_of_lt_of_le (by have := World.block_lt_of_cell? _ _ hx164_0; first | rwa [add_block] at this | exact this) GW163.out); replace hx164_0 := (HB.out.cell (World.block_lt_of_cell? w _ hx164_0)).trans hx164_0; replace hx164_0 := (cell_far (p := ⟨gb163, 0, none⟩) (by first | (rw [add_block]; exact hn164_0) | (show (Addr.add _ _).block ≠ _; rw [add_block]; exact hn164_0) | exact hn164_0) (.int .i64 ((rd_T36 l0 x9_1).f0))).trans hx164_0; replace hx164_0 := (cell_far (p := ⟨gb163, 1, none⟩) (by first | (rw [add_block]; exact hn164_1) | (show (Addr.add _ _).block ≠ _; rw [add_block]; exact hn164_1) | exact hn164_1) (.int .i64 ((rd_T36 l0 x9_1).f1))).trans hx164_0; replace hx164_0 := (cell_far (p := ⟨gb163, 2, none⟩) (by first | (rw [add_block]; exact hn164_2) | (show (Addr.add _ _).block ≠ _; rw [add_block]; exact hn164_2) | exact hn164_2) (.int .i64 ((rd_T36 l0 x9_1).f2))).trans hx164_0; (try have hy164_0 := fun (n_ : Nat) => (show (((((w25.drewN n_).setCell ⟨gb163, 0, none⟩ (.int .i64 ((rd_T36 l0 x9_1).f0))).setCell ⟨gb163, 1, none⟩ (.int .i64 ((rd_T36 l0 x9_1).f1))).setCell ⟨gb163, 2, none⟩ (.int .i64 ((rd_T36 l0 x9_1).f2)))).cell? _ = some _ from hx164_0)); clear hn164_0; clear hn164_1; clear hn164_2; replace p164 := eq_true p164; replace q164 := eq_true q164; have p165 : 0 ≤ (((rd_T36 l0 x9_1).f1) : Int) := of_decide_eq_true (by first | (with_reducible assumption) | assumption); have q165 : ((rd_T36 l0 x9_1).f1) < (l1.length : Int) := of_decide_eq_true (by first | (with_reducible assumption) | assumption); obtain ⟨ad165, e165, hx165_0⟩ := Kd.at_int HR1.out ((rd_T36 l0 x9_1).f1) p165 q165; obtain rfl : ad164 = ad165 := (by injection e165); have hn165_0 : ad164.block ≠ gb163 := Nat.ne_of_lt (Nat.lt_of_lt_of_le (by have := World.block_lt_of_cell? _ _ hx165_0; first | rwa [add_block] at this | exact this) GW163.out); have hn165_1 : ad164.block ≠ gb163 := Nat.ne_of_lt (Nat.lt_of_lt_of_le (by have := World.block_lt_of_cell? _ _ hx165_0; first | rwa [add_block] at this | exact this) GW163.out); have hn165_2 : ad164.block ≠ gb163 := Nat.ne_of_lt (Nat.lt_of_lt_of_le (by have := World.block_lt_of_cell? _ _ hx165_0; first | rwa [add_block] at this | exact this) GW163.out); replace hx165_0 := (HB.out.cell (World.block_lt_of_cell? w _ hx165_0)).trans hx165_0; replace hx165_0 := (cell_far (p := ⟨gb163, 0, none⟩) (by first | (rw [add_block]; exact hn165_0) | (show (Addr.add _ _).block ≠ _; rw [add_block]; exact hn165_0) | exact hn165_0) (.int .i64 ((rd_T36 l0 x9_1).f0))).trans hx165_0; replace hx165_0 := (cell_far (p := ⟨gb163, 1, none⟩) (by first | (rw [add_block]; exact hn165_1) | (show (Addr.add _ _).block ≠ _; rw [add_block]; exact hn165_1) | exact hn165_1) (.int .i64 ((rd_T36 l0 x9_1).f1))).trans hx165_0; replace hx165_0 := (cell_far (p := ⟨gb163, 2, none⟩) (by first | (rw [add_block]; exact hn165_2) | (show (Addr.add _ _).block ≠ _; rw [add_block]; exact hn165_2) | exact hn165_2) (.int .i64 ((rd_T36 l0 x9_1).f2))).trans hx165_0; (try have hy165_0 := fun (n_ : Nat) => (show (((((w25.drewN n_).setCell ⟨gb163, 0, none⟩ (.int .i64 ((rd_T36 l0 x9_1).f0))).setCell ⟨gb163, 1, none⟩ (.int .i64 ((rd_T36 l0 x9_1).f1))).setCell ⟨gb163, 2, none⟩ (.int .i64 ((rd_T36 l0 x9_1).f2)))).cell? _ = some _ from hx165_0)); clear hn165_0; clear hn165_1; clear hn165_2; replace p165 := eq_true p165; replace q165 := eq_true q165)); try go_wp2_with (first | ((with_reducible refine gate_dst (N := 6) rfl ?_); (try (refine gate_guard (by rfl) ?_; dsimp only)); refine box_event ?hg (N := 6) ?hd (cs := #[.int .i64 0, .int .i64 0, .int .i64 0]) (t := 36) ?hr ?_; (case hd => rfl); (case hg => rfl); (case hr => first | (go_simp; done) | (go_simp; rfl)); intro gb163 hg w25 hbox hb; have n0_ := Aside0.mk (below_step (by repeat (first | (with_reducible first | exact HB.out | apply below_alloc | apply pw_below_drewN | apply below_drew1) | exact HB.out)) hb); have n1_ := Aside0.mk (hbox); have n2_ := Aside0.mk ((by rw [hg]; exact (below_size (by repeat (first | (with_reducible first | exact HB.out | apply below_alloc | apply pw_below_drewN | apply below_drew1) | exact HB.out))) : w.heap.size ≤ gb163)); have n3_ := Aside0.mk ((by rw [hg]; exact (below_size (by repeat (first | (with_reducible first | exact HB.out | apply below_alloc | apply pw_below_drewN | apply below_drew1) | exact HB.out))) : w.heap.size ≤ gb163)); clear HB; have HB := n0_; have BK163 := n1_; have GW163 := n2_; have GE163 := n3_; clear n0_ n1_ n2_ n3_; clear hb hbox hg; have hcz26_0 : w25.cell? ⟨gb163, 0, none⟩ = some (.int .i64 0) := (blk_cell BK163.out 0).trans rfl; have hcz26_1 : w25.cell? ⟨gb163, 1, none⟩ = some (.int .i64 0) := (blk_cell BK163.out 1).trans rfl; have hcz26_2 : w25.cell? ⟨gb163, 2, none⟩ = some (.int .i64 0) := (blk_cell BK163.out 2).trans rfl; have hfz26_0 := blk_frozen BK163.out 0; have hfz26_1 := blk_frozen BK163.out 1; have hfz26_2 := blk_frozen BK163.out 2; have p164 : 0 ≤ (((rd_T36 l0 x9_1).f0) : Int) := of_decide_eq_true (by first | (with_reducible assumption) | assumption); have q164 : ((rd_T36 l0 x9_1).f0) < (l1.length : Int) := of_decide_eq_true (by first | (with_reducible assumption) | assumption); obtain ⟨ad164, e164, hx164_0⟩ := Kd.at_int HR1.out ((rd_T36 l0 x9_1).f0) p164 q164; cases e164; have hn164_0 : ad164.block ≠ gb163 := Nat.ne_of_lt (Nat.lt_of_lt_of_le (by have := World.block_lt_of_cell? _ _ hx164_0; first | rwa [add_block] at this | exact this) GW163.out); have hn164_1 : ad164.block ≠ gb163 := Nat.ne_of_lt (Nat.lt_of_lt_of_le (by have := World.block_lt_of_cell? _ _ hx164_0; first | rwa [add_block] at this | exact this) GW163.out); have hn164_2 : ad164.block ≠ gb163 := Nat.ne_of_lt (Nat.lt_of_lt_of_le (by have := World.block_lt_of_cell? _ _ hx164_0; first | rwa [add_block] at this | exact this) GW163.out); replace hx164_0 := (HB.out.cell (World.block_lt_of_cell? w _ hx164_0)).trans hx164_0; replace hx164_0 := (cell_far (p := ⟨gb163, 0, none⟩) (by first | (rw [add_block]; exact hn164_0) | (show (Addr.add _ _).block ≠ _; rw [add_block]; exact hn164_0) | exact hn164_0) (.int .i64 ((rd_T36 l0 x9_1).f0))).trans hx164_0; replace hx164_0 := (cell_far (p := ⟨gb163, 1, none⟩) (by first | (rw [add_block]; exact hn164_1) | (show (Addr.add _ _).block ≠ _; rw [add_block]; exact hn164_1) | exact hn164_1) (.int .i64 ((rd_T36 l0 x9_1).f1))).trans hx164_0; replace hx164_0 := (cell_far (p := ⟨gb163, 2, none⟩) (by first | (rw [add_block]; exact hn164_2) | (show (Addr.add _ _).block ≠ _; rw [add_block]; exact hn164_2) | exact hn164_2) (.int .i64 ((rd_T36 l0 x9_1).f2))).trans hx164_0; (try have hy164_0 := fun (n_ : Nat) => (show (((((w25.drewN n_).setCell ⟨gb163, 0, none⟩ (.int .i64 ((rd_T36 l0 x9_1).f0))).setCell ⟨gb163, 1, none⟩ (.int .i64 ((rd_T36 l0 x9_1).f1))).setCell ⟨gb163, 2, none⟩ (.int .i64 ((rd_T36 l0 x9_1).f2)))).cell? _ = some _ from hx164_0)); clear hn164_0; clear hn164_1; clear hn164_2; replace p164 := eq_true p164; replace q164 := eq_true q164; have p165 : 0 ≤ (((rd_T36 l0 x9_1).f1) : Int) := of_decide_eq_true (by first | (with_reducible assumption) | assumption); have q165 : ((rd_T36 l0 x9_1).f1) < (l1.length : Int) := of_decide_eq_true (by first | (with_reducible assumption) | assumption); obtain ⟨ad165, e165, hx165_0⟩ := Kd.at_int HR1.out ((rd_T36 l0 x9_1).f1) p165 q165; obtain rfl : ad164 = ad165 := (by injection e165); have hn165_0 : ad164.block ≠ gb163 := Nat.ne_of_lt (Nat.lt_of_lt_of_le (by have := World.block_lt_of_cell? _ _ hx165_0; first | rwa [add_block] at this | exact this) GW163.out); have hn165_1 : ad164.block ≠ gb163 := Nat.ne_of_lt (Nat.lt_of_lt_of_le (by have := World.block_lt_of_cell? _ _ hx165_0; first | rwa [add_block] at this | exact this) GW163.out); have hn165_2 : ad164.block ≠ gb163 := Nat.ne_of_lt (Nat.lt_of_lt_of_le (by have := World.block_lt_of_cell? _ _ hx165_0; first | rwa [add_block] at this | exact this) GW163.out); replace hx165_0 := (HB.out.cell (World.block_lt_of_cell? w _ hx165_0)).trans hx165_0; replace hx165_0 := (cell_far (p := ⟨gb163, 0, none⟩) (by first | (rw [add_block]; exact hn165_0) | (show (Addr.add _ _).block ≠ _; rw [add_block]; exact hn165_0) | exact hn165_0) (.int .i64 ((rd_T36 l0 x9_1).f0))).trans hx165_0; replace hx165_0 := (cell_far (p := ⟨gb163, 1, none⟩) (by first | (rw [add_block]; exact hn165_1) | (show (Addr.add _ _).block ≠ _; rw [add_block]; exact hn165_1) | exact hn165_1) (.int .i64 ((rd_T36 l0 x9_1).f1))).trans hx165_0; replace hx165_0 := (cell_far (p := ⟨gb163, 2, none⟩) (by first | (rw [add_block]; exact hn165_2) | (show (Addr.add _ _).block ≠ _; rw [add_block]; exact hn165_2) | exact hn165_2) (.int .i64 ((rd_T36 l0 x9_1).f2))).trans hx165_0; (try have hy165_0 := fun (n_ : Nat) => (show (((((w25.drewN n_).setCell ⟨gb163, 0, none⟩ (.int .i64 ((rd_T36 l0 x9_1).f0))).setCell ⟨gb163, 1, none⟩ (.int .i64 ((rd_T36 l0 x9_1).f1))).setCell ⟨gb163, 2, none⟩ (.int .i64 ((rd_T36 l0 x9_1).f2)))).cell? _ = some _ from hx165_0)); clear hn165_0; clear hn165_1; clear hn165_2; replace p165 := eq_true p165; replace q165 := eq_true q165)))
                              go_roundg k1
                              case measure => have := HK1.out; omega
                              case rel => exact ⟨(wrap64 (x9_1 + 1)), (by first | rfl | (simp; done) | (simp [*]; done)), H', ⟨by have := HK1.out; omega⟩, ⟨by repeat (first | (with_reducible first | exact HB.out | apply below_alloc | apply pw_below_drewN | apply below_drew1 | refine below_set ?_ GE163.out) | exact HB.out)⟩⟩
                          · rw [if_neg c21] at H
                            exact absurd H (by simp)
                        · rw [if_neg c20] at H
                          exact absurd H (by simp)
                      · rw [if_neg c19] at H
                        exact absurd H (by simp)
                    · rw [if_neg c18] at H
                      exact absurd H (by simp)
          · rw [if_neg c5] at H
            exact absurd H (by simp)
        · rw [if_neg c4] at H
          exact absurd H (by simp)
      · rw [if_neg c3] at H
        have c3b0 : decide (x9_1 < (l0.length : Int)) = false := decide_eq_false c3
        clear c3
        obtain rfl := Option.some.inj H
        go_wp2
        repeat (go_quiet (fail); try go_wp2)
        go_ret
        exact ⟨by first | rfl | (simp [errW_none, errW_some] <;> rfl) | (simp [*, errW_none, errW_some] <;> rfl), by repeat (first | (with_reducible first | exact HB.out | apply below_alloc | apply pw_below_drewN | apply below_drew1) | exact HB.out)⟩

-- NOT PRINTED: function 11 (interleavelaw32_DiffGreatest)

end Go.Proofs.Ytolfnlamknmeaaa.MDiffGreatest
