-- Written by a program of this session (wip/myprint in its repo: the kit's print with additions of its own).
import Derived.Test.YtdbpdhbabolooaaMClockTicksx0
import Derived.Test.YtdbpdhbabolooaaMClockTicksx1
namespace Go.Proofs.Ytdbpdhbabolooaa.MClockTicks
open Go.RowKit Go.Proofs.YtdbpdhbabolooaaW.PrintWords Go.Proofs.YtdbpdhbabolooaaW.PrintLast Go.Proofs.YtdbpdhbabolooaaW.PrintMore
attribute [local go_sem] max2_int min2_int max_two min_two max_three min_three max_four min_four   -- for this text's walks alone
set_option linter.unusedVariables false
set_option linter.unusedSimpArgs false

/-! ### clock_Tick: function 32 -/
def clock_Tick.grow (l0 : List Int) (a1 : Int) : List Int := l0 ++ List.replicate ((mx (l0.length : Int) (a1 + 1)).toNat - l0.length) 0
def clock_Tick.f (l0 : List Int) (a1 : Int) : Option (List Int) :=
  if l0.length ≤ 17592186043904 then
    (if a1 < 0 ∨ 4 ≤ a1 then some l0 else
      (if rd (clock_Tick.grow l0 a1) a1 < 9223372036854775807 then some ((clock_Tick.grow l0 a1).set a1.toNat (wrap64 (rd (clock_Tick.grow l0 a1) a1 + 1))) else some (clock_Tick.grow l0 a1)))
  else none
set_option maxHeartbeats 8000000 in
set_option maxRecDepth 100000 in
theorem clock_Tick.calls_out (A0 : Option Addr) (c0 : Nat) (l0 : List Int) (a1 : Int) (w : World) (hr0 : Kd.C (Kd.int .i64) w A0 l0.length l0) (hl : l0.length ≤ 17592186043904) (ha : a1 < 0 ∨ 4 ≤ a1) :
    Calls Try.prog 32 #[.slice A0 l0.length c0, .int .i64 a1] w fun e w' => ∃ v0_ : Value, e = .returned (v0_) ∧ Kd.R (Kd.int .i64) 3 w' w.heap.size (fun _ => True) v0_ l0 ∧ Below w.heap.size w w' := by
  have HR0 := Aside0.mk hr0
  have HL := Aside0.mk hl
  have HB := Aside0.mk (Below.refl w.heap.size w)
  clear hr0 hl
  have hneg : a1 < 0 → decide (a1 < 0) = true := fun h => decide_eq_true h
  rcases ha with ha | ha
  · clear hneg
    go_enter Try.func32, Try.ntmps32
    go_wp2_with (first | ((with_reducible refine gate_builtin (b := .append) (xs := #[.const (.slice none 0 0), .tmp 12]) rfl ?_); at_builtin; refine Kd.R_append_rows (Kd.int .i64) (w0 := w) w.heap.size rfl (.const (.slice none 0 0)) (.tmp 12) 22 3 (.int .i64 0) 8 rfl Try.underlying22 info3 rfl (by decide) (by omega) (.slice none 0 0) [] l0 A0 l0.length c0 (fun _ => True) (fun _ => False) rfl rfl ?aO ?aR (fun _ _ h => h) (fun _ h => h.elim) (fun _ _ => trivial) ?aB ?aS ?aL ?_; (case aO => exact Kd.R_nil _ _ _ _ _); (case aR => exact (by repeat (first | exact HR0.out | (with_reducible refine Kd.C_alloc ?_ _) | (with_reducible refine Kd.C_drewN ?_ _) | (with_reducible refine Kd.C_drew ?_)))); (case aB => exact (by repeat (first | (with_reducible first | exact HB.out | apply below_alloc | apply pw_below_drewN | apply below_drew1) | exact HB.out))); (case aS => exact (below_size (by repeat (first | (with_reducible first | exact HB.out | apply below_alloc | apply pw_below_drewN | apply below_drew1) | exact HB.out)))); (case aL => have := HL.out; simp; omega); intro v13 w13 ho hb hg hat; rw [List.nil_append] at ho; have HO := Aside0.mk ho; clear HB; have HB := Aside0.mk hb; clear ho hb hg hat))
    go_ret
    exact ⟨_, rfl, HO.out, HB.out⟩
  · have hn : ¬ a1 < 0 := by omega
    clear hneg
    go_enter Try.func32, Try.ntmps32
    go_wp2_with (first | ((with_reducible refine gate_builtin (b := .append) (xs := #[.const (.slice none 0 0), .tmp 12]) rfl ?_); at_builtin; refine Kd.R_append_rows (Kd.int .i64) (w0 := w) w.heap.size rfl (.const (.slice none 0 0)) (.tmp 12) 22 3 (.int .i64 0) 8 rfl Try.underlying22 info3 rfl (by decide) (by omega) (.slice none 0 0) [] l0 A0 l0.length c0 (fun _ => True) (fun _ => False) rfl rfl ?aO ?aR (fun _ _ h => h) (fun _ h => h.elim) (fun _ _ => trivial) ?aB ?aS ?aL ?_; (case aO => exact Kd.R_nil _ _ _ _ _); (case aR => exact (by repeat (first | exact HR0.out | (with_reducible refine Kd.C_alloc ?_ _) | (with_reducible refine Kd.C_drewN ?_ _) | (with_reducible refine Kd.C_drew ?_)))); (case aB => exact (by repeat (first | (with_reducible first | exact HB.out | apply below_alloc | apply pw_below_drewN | apply below_drew1) | exact HB.out))); (case aS => exact (below_size (by repeat (first | (with_reducible first | exact HB.out | apply below_alloc | apply pw_below_drewN | apply below_drew1) | exact HB.out)))); (case aL => have := HL.out; simp; omega); intro v13 w13 ho hb hg hat; rw [List.nil_append] at ho; have HO := Aside0.mk ho; clear HB; have HB := Aside0.mk hb; clear ho hb hg hat))
    go_ret
    exact ⟨_, rfl, HO.out, HB.out⟩
theorem clock_Tick.grow_len (l0 : List Int) (a1 : Int) (h0 : 0 ≤ a1) : ((clock_Tick.grow l0 a1).length : Int) = mx (l0.length : Int) (a1 + 1) := by
  unfold clock_Tick.grow mx
  rw [List.length_append, List.length_replicate]
  split <;> omega
theorem clock_Tick.grow_copy (l0 : List Int) (a1 n : Int) (h0 : 0 ≤ a1) (hn : mx (l0.length : Int) (a1 + 1) = n) :
    l0.take (min l0.length (List.replicate n.toNat (0 : Int)).length) ++ (List.replicate n.toNat (0 : Int)).drop (min l0.length (List.replicate n.toNat (0 : Int)).length) = clock_Tick.grow l0 a1 := by
  have : l0.length ≤ n.toNat := by rw [← hn]; unfold mx; split <;> omega
  unfold clock_Tick.grow
  rw [hn, List.length_replicate, Nat.min_eq_left this, List.take_length, List.drop_replicate]
set_option maxHeartbeats 8000000 in
set_option maxRecDepth 100000 in
theorem clock_Tick.calls_in (A0 : Option Addr) (c0 : Nat) (l0 : List Int) (a1 : Int) (w : World) (hr0 : Kd.C (Kd.int .i64) w A0 l0.length l0) (hl : l0.length ≤ 17592186043904) (h0 : 0 ≤ a1) (h4 : a1 < 4) (r : List Int)
    (hr : (if rd (clock_Tick.grow l0 a1) a1 < 9223372036854775807 then (clock_Tick.grow l0 a1).set a1.toNat (wrap64 (rd (clock_Tick.grow l0 a1) a1 + 1)) else clock_Tick.grow l0 a1) = r) :
    Calls Try.prog 32 #[.slice A0 l0.length c0, .int .i64 a1] w fun e w' => ∃ v0_ : Value, e = .returned (v0_) ∧ Kd.R (Kd.int .i64) 3 w' w.heap.size (fun _ => True) v0_ r ∧ Below w.heap.size w w' := by
  have HR0 := Aside0.mk hr0
  have HL := Aside0.mk hl
  have HB := Aside0.mk (Below.refl w.heap.size w)
  have HRR := Aside0.mk hr
  have HGL := Aside0.mk (clock_Tick.grow_len l0 a1 h0)
  have HGC := Aside0.mk (clock_Tick.grow_copy l0 a1)
  obtain ⟨n, hn⟩ : ∃ n : Int, mx (l0.length : Int) (a1 + 1) = n := ⟨_, rfl⟩
  have hn_ : (if (l0.length : Int) < a1 + 1 then a1 + 1 else (l0.length : Int)) = n := hn
  have hn0 : 0 ≤ n := by rw [← hn]; unfold mx; split <;> omega
  have hn1 : n ≤ 17592186043908 := by rw [← hn]; unfold mx; split <;> omega
  have HN := Aside0.mk hn
  clear hr0 hr hn
  have hle : (a1 ≥ 4) = False := eq_false (by omega)
  have hlt : (a1 < 0) = False := eq_false (by omega)
  obtain ⟨y, hy⟩ : ∃ y : List Int, y = List.replicate n.toNat 0 := ⟨_, rfl⟩
  have HY := Aside0.mk hy
  clear hy
  obtain ⟨G, hG⟩ : ∃ G : List Int, G = clock_Tick.grow l0 a1 := ⟨_, rfl⟩
  have hGY : y.length = G.length := by
    have h1 := HGL.out
    have h2 := HN.out
    rw [← hG] at h1
    rw [HY.out, List.length_replicate]; omega
  have hG1 : a1 < (G.length : Int) := by
    have h1 := HGL.out
    rw [← hG] at h1
    rw [h1]; unfold mx; split <;> omega
  have hGC : l0.take (min l0.length y.length) ++ y.drop (min l0.length y.length) = G := by rw [HY.out, hG]; exact HGC.out n h0 HN.out
  have HGY := Aside0.mk hGY
  have HGG := Aside0.mk hGC
  have hR := HRR.out
  rw [← hG] at hR
  have HR := Aside0.mk hR
  clear hGY hGC hG hR HRR HGL HGC HN
  obtain ⟨x, hx⟩ : ∃ x : Int, x = rd G a1 := ⟨_, rfl⟩
  have HX := Aside0.mk hx
  clear hx
  have hd0 := eq_true h0
  have hd1 := eq_true hG1
  go_enter Try.func32, Try.ntmps32
  go_wp2_with (first | ((with_reducible refine gate_dst (N := 19) rfl ?_); refine Kd.R_make (Kd.int .i64) _ 3 rfl (N := 19) rfl 22 _ _ rfl n rfl rfl Try.underlying22 (.int .i64 0) 8 info3 rfl (by decide) (by omega) 0 (ok := fun _ => True) (okp := fun _ => True) rfl (fun _ hk => hk) trivial hn0 (by omega) (Below.refl _ _) (Nat.le_refl _) ?_; intro v19 w19 ho hb hg_ hnew_; clear hg_ hnew_; rw [← HY.out] at ho; have n0_ := Aside0.mk (Kd.R_lower ho (below_size (by repeat (first | (with_reducible first | exact HB.out | apply below_alloc | apply pw_below_drewN | apply below_drew1) | exact HB.out)))); have n1_ := Aside0.mk (below_step (by repeat (first | (with_reducible first | exact HB.out | apply below_alloc | apply pw_below_drewN | apply below_drew1) | exact HB.out)) hb); clear HB; have HO := n0_; have HB := n1_; clear n0_ n1_; clear hb ho; obtain ⟨Ao, co, eo⟩ := Kd.R_slice HO.out; subst eo) | ((with_reducible refine gate_dst (N := 22) rfl ?_); refine Kd.R_copy (0 : Int) (w0 := w) w.heap.size rfl (.tmp 20) (.tmp 21) 22 22 3 rfl Try.underlying22 (by kernel_rfl) (.slice Ao y.length co) y l0 A0 l0.length c0 (fun _ => True) rfl rfl HO.out (Kd.C_below HR0.out HB.out) HB.out (below_size HB.out) ?_; intro w22 ho hb hg; rw [HGG.out] at ho; clear HO HB; have HO := Aside0.mk ho; have HB := Aside0.mk hb; clear ho hb hg; rw [HGY.out] at HO; simp only [HGY.out]; obtain ⟨go, co', eo, gb, gl, cl, HG⟩ := Kd.R_form HO.out (by omega); (cases eo); obtain ⟨hx25, hf25⟩ := Kd.R_celln 0 HO.out a1 h0 hG1))
  · have hlt' : rd G a1 < 9223372036854775807 := by assumption
    have hr := HR.out
    rw [if_pos hlt'] at hr
    have hp := Kd.R_putg HO.out a1 (wrap64 (rd G a1 + 1))
    rw [hr] at hp
    go_ret
    exact ⟨_, rfl, hp.1, below_set HB.out gb⟩
  · have hge' : 9223372036854775807 ≤ rd G a1 := by assumption
    have hr := HR.out
    rw [if_neg (by omega)] at hr
    subst hr
    go_ret
    exact ⟨_, rfl, HO.out, HB.out⟩
set_option maxHeartbeats 8000000 in
theorem clock_Tick.calls (A0 : Option Addr) (c0 : Nat) (l0 : List Int) (a1 : Int) (r : List Int) (w : World) (hr0 : Kd.C (Kd.int .i64) w A0 l0.length l0) (hc0 : l0.length ≤ c0) (h : clock_Tick.f l0 a1 = some r) :
    Calls Try.prog 32 #[.slice A0 l0.length c0, .int .i64 a1] w fun e w' => ∃ v0_ : Value, e = .returned (v0_) ∧ Kd.R (Kd.int .i64) 3 w' w.heap.size (fun _ => True) v0_ r ∧ Below w.heap.size w w' := by
  unfold clock_Tick.f at h
  by_cases hl : l0.length ≤ 17592186043904
  · rw [if_pos hl] at h
    by_cases ha : a1 < 0 ∨ 4 ≤ a1
    · rw [if_pos ha] at h
      obtain rfl := Option.some.inj h
      exact clock_Tick.calls_out A0 c0 l0 a1 w hr0 hl ha
    · rw [if_neg ha] at h
      refine clock_Tick.calls_in A0 c0 l0 a1 w hr0 hl (by omega) (by omega) r ?_
      by_cases hx : rd (clock_Tick.grow l0 a1) a1 < 9223372036854775807
      · rw [if_pos hx] at h ⊢; exact Option.some.inj h
      · rw [if_neg hx] at h ⊢; exact Option.some.inj h
  · rw [if_neg hl] at h
    exact absurd h (by simp)

/-! ### interleaveref22_Copy: function 34 -/
def interleaveref22_Copy.f (l0 : List Int) : Option (List Int) := if l0.length ≤ 17592186043904 then some l0 else none
set_option maxHeartbeats 8000000 in
set_option maxRecDepth 100000 in
theorem interleaveref22_Copy.calls (A0 : Option Addr) (c0 : Nat) (l0 : List Int) (r : List Int) (w : World) (hr0 : Kd.C (Kd.int .i64) w A0 l0.length l0) (hc0 : l0.length ≤ c0) (h : interleaveref22_Copy.f l0 = some r) :
    Calls Try.prog 34 #[.slice A0 l0.length c0] w fun e w' => ∃ v0_ : Value, e = .returned (v0_) ∧ Kd.R (Kd.int .i64) 3 w' w.heap.size (fun _ => True) v0_ r ∧ Below w.heap.size w w' := by
  unfold interleaveref22_Copy.f at h
  by_cases hl : l0.length ≤ 17592186043904
  · rw [if_pos hl] at h
    obtain rfl := Option.some.inj h
    have HR0 := Aside0.mk hr0
    have HL := Aside0.mk hl
    have HB := Aside0.mk (Below.refl w.heap.size w)
    clear hr0 hl h
    go_enter Try.func34, Try.ntmps34
    go_wp2_with (first | ((with_reducible refine gate_builtin (b := .append) (xs := #[.const (.slice none 0 0), .tmp 3]) rfl ?_); at_builtin; refine Kd.R_append_rows (Kd.int .i64) (w0 := w) w.heap.size rfl (.const (.slice none 0 0)) (.tmp 3) 22 3 (.int .i64 0) 8 rfl Try.underlying22 info3 rfl (by decide) (by omega) (.slice none 0 0) [] l0 A0 l0.length c0 (fun _ => True) (fun _ => False) rfl rfl ?aO ?aR (fun _ _ h => h) (fun _ h => h.elim) (fun _ _ => trivial) ?aB ?aS ?aL ?_; (case aO => exact Kd.R_nil _ _ _ _ _); (case aR => exact (show Kd.C (Kd.int .i64) _ A0 l0.length l0 from HR0.out)); (case aB => exact (by repeat (first | (with_reducible first | exact HB.out | apply below_alloc | apply pw_below_drewN | apply below_drew1) | exact HB.out))); (case aS => exact (below_size (by repeat (first | (with_reducible first | exact HB.out | apply below_alloc | apply pw_below_drewN | apply below_drew1) | exact HB.out)))); (case aL => have := HL.out; simp; omega); intro v13 w13 ho hb hg hat; rw [List.nil_append] at ho; have HO := Aside0.mk ho; clear HB; have HB := Aside0.mk hb; clear ho hb hg hat))
    go_ret
    exact ⟨_, rfl, HO.out, HB.out⟩
  · rw [if_neg hl] at h
    exact absurd h (by simp)

/-! ### interleaveref22_Tick: function 33 -/
mutual
def interleaveref22_Tick.j0 : Nat → List Int → Int → Bool → Option (List Int)
  | 0, _, _, _ => none
  | k + 1, x0, x1, x12 => if x12 = true then (some x0) else (interleaveref22_Tick.l0 k x0 x1)
def interleaveref22_Tick.l0 : Nat → List Int → Int → Option (List Int)
  | 0, _, _ => none
  | k + 1, x0, x1 => if (x0.length : Int) ≤ x1 then (if x0.length < 17592186044416 then (interleaveref22_Tick.l0 k (x0 ++ [0]) x1) else (none)) else (if 0 ≤ x1 then (if x1 < (x0.length : Int) then (if (rd x0 x1) < 9223372036854775807 then (some (x0.set (x1 : Int).toNat (wrap64 ((rd x0 x1) + 1)))) else (some x0)) else (none)) else (none))
end
def interleaveref22_Tick.f (k : Nat) (l0 : List Int) (a1 : Int) : Option (List Int) := (interleaveref22_Copy.f l0).bind fun t143 => (if a1 < 0 then (interleaveref22_Tick.j0 k t143 a1 true) else (interleaveref22_Tick.j0 k t143 a1 (decide (a1 ≥ 4))))
theorem interleaveref22_Tick.mono_l : ∀ k, (∀ y0 y1 y2, LeO (interleaveref22_Tick.j0 k y0 y1 y2) (interleaveref22_Tick.j0 (k + 1) y0 y1 y2)) ∧ (∀ y0 y1, LeO (interleaveref22_Tick.l0 k y0 y1) (interleaveref22_Tick.l0 (k + 1) y0 y1))
  | 0 => ⟨fun _ _ _ r h => by simp [interleaveref22_Tick.j0] at h, fun _ _ r h => by simp [interleaveref22_Tick.l0] at h⟩
  | k + 1 => by
    obtain ⟨ih0, ih1⟩ := interleaveref22_Tick.mono_l k
    refine ⟨?_, ?_⟩
    · intro y0 y1 y2
      unfold interleaveref22_Tick.j0
      repeat' first
      | (with_reducible exact ih0 _ _ _)
      | (with_reducible exact ih1 _ _)
      | (with_reducible exact LeO.refl _)
      | (with_reducible exact LeO.none _)
      | (with_reducible refine LeO.ite ?_ ?_)
      | (with_reducible refine LeO.bind ?_ (fun _ => ?_))
      | exact ih0 _ _ _
      | exact ih1 _ _
      | exact LeO.none _
      | refine LeO.ite ?_ ?_
      | refine LeO.bind ?_ (fun _ => ?_)
    · intro y0 y1
      unfold interleaveref22_Tick.l0
      repeat' first
      | (with_reducible exact ih0 _ _ _)
      | (with_reducible exact ih1 _ _)
      | (with_reducible exact LeO.refl _)
      | (with_reducible exact LeO.none _)
      | (with_reducible refine LeO.ite ?_ ?_)
      | (with_reducible refine LeO.bind ?_ (fun _ => ?_))
      | exact ih0 _ _ _
      | exact ih1 _ _
      | exact LeO.none _
      | refine LeO.ite ?_ ?_
      | refine LeO.bind ?_ (fun _ => ?_)
theorem interleaveref22_Tick.mono : ∀ a0 a1 k, LeO (interleaveref22_Tick.f k a0 a1) (interleaveref22_Tick.f (k + 1) a0 a1) := by
  intro a0 a1 k
  obtain ⟨ih0, ih1⟩ := interleaveref22_Tick.mono_l k
  unfold interleaveref22_Tick.f
  repeat' first
      | (with_reducible exact ih0 _ _ _)
      | (with_reducible exact ih1 _ _)
      | (with_reducible exact LeO.refl _)
      | (with_reducible exact LeO.none _)
      | (with_reducible refine LeO.ite ?_ ?_)
      | (with_reducible refine LeO.bind ?_ (fun _ => ?_))
      | exact ih0 _ _ _
      | exact ih1 _ _
      | exact LeO.none _
      | refine LeO.ite ?_ ?_
      | refine LeO.bind ?_ (fun _ => ?_)
set_option maxHeartbeats 8000000 in
set_option maxRecDepth 100000 in
theorem interleaveref22_Tick.calls (k : Nat) (A0 : Option Addr) (c0 : Nat) (l0 : List Int) (a1 : Int) (r : List Int) (w : World) (hr0 : Kd.C (Kd.int .i64) w A0 l0.length l0) (hc0 : l0.length ≤ c0) (h : interleaveref22_Tick.f k l0 a1 = some r) :
    Calls Try.prog 33 #[.slice A0 l0.length c0, .int .i64 a1] w fun e w' => ∃ v0_ : Value, e = .returned (v0_) ∧ Kd.R (Kd.int .i64) 3 w' w.heap.size (fun _ => True) v0_ r ∧ Below w.heap.size w w' := by
  have HR0 := Aside0.mk hr0
  have HC0 := Aside0.mk hc0
  clear hr0 hc0
  have HB := Aside0.mk (Below.refl w.heap.size w)
  have H : ((interleaveref22_Copy.f l0).bind fun t143 => (if a1 < 0 then (interleaveref22_Tick.j0 k t143 a1 true) else (interleaveref22_Tick.j0 k t143 a1 (decide (a1 ≥ 4))))) = some r := h
  clear h
  replace H := Option.bind_eq_some_iff.mp H
  obtain ⟨t143, A30, H⟩ := H
  replace H : (if a1 < 0 then (interleaveref22_Tick.j0 k t143 a1 true) else (interleaveref22_Tick.j0 k t143 a1 (decide (a1 ≥ 4)))) = some r := H
  have A3 := Aside0.mk A30
  clear A30
  have HC4 := Aside0.mk H
  clear H
  go_enter Try.func33, Try.ntmps33
  go_upto_region 2 with (first | ((with_reducible refine gate_callee (f := 34) rfl ?_); refine goesL_ (some 6) rfl rfl Try.func34 (by kernel_rfl) rfl #[.slice A0 l0.length c0] rfl (by (try simp only [List.map_toArray, List.map_cons, List.map_nil]); first | done | rfl | (simp only [List.length_drop, List.length_take]; rfl)) ?_; (with_reducible refine (interleaveref22_Copy.calls _ _ l0 t143 _ ?side1 ?side2 A3.out).mono ?_); (case side1 => repeat (first | exact HR0.out | (with_reducible refine Kd.C_alloc ?_ _) | (with_reducible refine Kd.C_drewN ?_ _) | (with_reducible refine Kd.C_drew ?_))); (case side2 => exact HC0.out); rintro e w5 ⟨v144, rfl, ho0, hb⟩; refine ⟨_, rfl, ?_⟩; have n0_ := Aside0.mk (Kd.R_lower ho0 (below_size (by repeat (first | (with_reducible first | exact HB.out | apply below_alloc | apply pw_below_drewN | apply below_drew1) | exact HB.out)))); have n1_ := Aside0.mk (below_step (by repeat (first | (with_reducible first | exact HB.out | apply below_alloc | apply pw_below_drewN | apply below_drew1) | exact HB.out)) hb); clear HB; have HO145 := n0_; have HB := n1_; clear n0_ n1_; (try clear hb); (try clear hb2); (try clear hk); (try clear hi); (try clear ho0)))
  (try simp only [Act.put, List.setIfInBounds_toArray, List.set_cons_zero, List.set_cons_succ])
  go_cut [12] (fun v12 wc => ∃ (kq : Nat) (x12_3 : Bool), v12 = .bool x12_3 ∧ Aside0 (interleaveref22_Tick.j0 kq t143 a1 x12_3 = some r) ∧ Aside0 (kq ≤ k) ∧ Aside0 (Kd.R (Kd.int .i64) 3 wc w.heap.size (fun _ => True) v144 t143) ∧ Aside0 (Below w.heap.size w wc))
  case first =>
    have H := HC4.out
    clear HC4
    by_cases c6 : a1 < 0
    · rw [if_pos c6] at H
      have c6b0 : decide (a1 < 0) = true := decide_eq_true c6
      clear c6
      (first | rw [c6b0] | (simp only [i64_w, i32_w]; rw [c6b0]) | skip)
      have H' := Aside0.mk H
      clear H
      go_wp2
      go_meet
      case rel => exact ⟨_, (true), (by first | rfl | (simp; done) | (simp [*]; done)), H', ⟨by first | omega | exact Nat.le_refl _⟩, ⟨by (with_reducible repeat (first | apply Kd.R_alloc | apply Kd.R_drewN | apply Kd.R_drew)); exact HO145.out⟩, ⟨by repeat (first | (with_reducible first | exact HB.out | apply below_alloc | apply pw_below_drewN | apply below_drew1) | exact HB.out)⟩⟩
    · rw [if_neg c6] at H
      have c6b0 : decide (a1 < 0) = false := decide_eq_false c6
      clear c6
      (first | rw [c6b0] | (simp only [i64_w, i32_w]; rw [c6b0]) | skip)
      have H' := Aside0.mk H
      clear H
      go_wp2
      go_meet
      case rel => exact ⟨_, (decide (a1 ≥ 4)), (by first | rfl | (simp; done) | (simp [*]; done)), H', ⟨by first | omega | exact Nat.le_refl _⟩, ⟨by (with_reducible repeat (first | apply Kd.R_alloc | apply Kd.R_drewN | apply Kd.R_drew)); exact HO145.out⟩, ⟨by repeat (first | (with_reducible first | exact HB.out | apply below_alloc | apply pw_below_drewN | apply below_drew1) | exact HB.out)⟩⟩
  case rest =>
    clear HC4
    try clear p2
    try clear c3
    try clear c6
    try clear c6b0
    obtain ⟨kq, x12_3, rfl, HA, HJ3, HO_0, HB⟩ := hcut
    cases kq with
    | zero => exact absurd HA.out (by simp [interleaveref22_Tick.j0])
    | succ kj3 =>
      have H := HA.out
      clear HA
      simp only [interleaveref22_Tick.j0] at H
      by_cases c7 : x12_3 = true
      · subst c7
        have H1 : (some t143) = some r := by rw [if_pos rfl] at H; exact H
        clear H
        have H := H1
        clear H1
        obtain rfl := Option.some.inj H
        go_wp2
        go_ret
        exact ⟨_, by first | rfl | (simp [errW_none, errW_some] <;> rfl) | (simp [*, errW_none, errW_some] <;> rfl), by (with_reducible repeat (first | apply Kd.R_alloc | apply Kd.R_drewN | apply Kd.R_drew)); exact HO_0.out, by repeat (first | (with_reducible first | exact HB.out | apply below_alloc | apply pw_below_drewN | apply below_drew1) | exact HB.out)⟩
      · replace c7 := Bool.eq_false_iff.mpr c7
        subst c7
        have H1 : (interleaveref22_Tick.l0 kj3 t143 a1) = some r := by rw [if_neg (show ¬ (false = true) by decide)] at H; exact H
        clear H
        have H := H1
        clear H1
        have H' := Aside0.mk H
        clear H
        go_wp2
        go_loopg [0] kj3 (fun kq v0 w' => ∃ (x0_2 : List Int), Aside0 (interleaveref22_Tick.l0 kq x0_2 a1 = some r) ∧ Aside0 (kq ≤ kj3) ∧ Aside0 (Kd.R (Kd.int .i64) 3 w' w.heap.size (fun _ => True) v0 x0_2) ∧ Aside0 (Below w.heap.size w w'))
        case atStart => exact ⟨(t143), H', ⟨Nat.le_refl _⟩, ⟨by (with_reducible repeat (first | apply Kd.R_alloc | apply Kd.R_drewN | apply Kd.R_drew)); exact HO_0.out⟩, ⟨by repeat (first | (with_reducible first | exact HB.out | apply below_alloc | apply pw_below_drewN | apply below_drew1) | exact HB.out)⟩⟩
        case round =>
          clear H'
          try clear p2
          try clear c3
          try clear c6
          try clear c6b0
          try clear c7
          try clear p2
          obtain ⟨x0_2, HA, HK2, HO_0, HB⟩ := hrel
          cases gk with
          | zero => exact absurd HA.out (by simp [interleaveref22_Tick.l0])
          | succ k2 =>
            have H := HA.out
            clear HA
            simp only [interleaveref22_Tick.l0] at H
            by_cases c8 : (x0_2.length : Int) ≤ a1
            · rw [if_pos c8] at H
              have c8b0 : decide ((x0_2.length : Int) ≤ a1) = true := decide_eq_true c8
              clear c8
              by_cases c9 : x0_2.length < 17592186044416
              · rw [if_pos c9] at H
                have LMc9 := Aside0.mk c9
                clear c9
                obtain ⟨y146, hy146⟩ : ∃ y_ : List Int, y_ = (x0_2 ++ [0]) := ⟨_, rfl⟩
                replace H : (interleaveref22_Tick.l0 k2 y146 a1) = some r := by first | (rw [hy146]; with_reducible exact H) | (have H2_ := (Option.bind_some _ _).symm.trans H; rw [hy146]; with_reducible exact H2_) | (have H2_ := (Option.bind_some _ _).symm.trans H; with_reducible exact H2_) | with_reducible exact H | (rw [hy146]; exact H) | exact H
                have Ny146 := Aside0.mk hy146
                clear hy146
                have H' := Aside0.mk H
                clear H
                obtain ⟨Ao10, co10, eo10⟩ := Kd.R_slice HO_0.out
                subst eo10
                go_wp2_with (first | ((with_reducible refine gate_builtin (b := .append) (xs := #[.tmp 18, .tmp 19]) rfl ?_); at_builtin; refine Kd.R_append (Kd.int .i64) (w0 := w) w.heap.size rfl (.tmp 18) (.tmp 19) 22 3 (.int .i64 0) 8 rfl Try.underlying22 info3 rfl (by decide) (by omega) (.slice Ao10 x0_2.length co10) x0_2 0 [.int .i64 0] (fun _ => True) (fun _ => False) rfl rfl ?aP (fun _ hk => hk.elim) ?aF ?aO ?aB ?aS ?aL ?_; (case aP => exact rfl); (case aB => exact (by repeat (first | (with_reducible first | exact HB.out | apply below_alloc | apply pw_below_drewN | apply below_drew1) | exact HB.out))); (case aF => exact (fun _ _ => trivial)); (case aO => exact (by (with_reducible repeat (first | apply Kd.R_alloc | apply Kd.R_drewN | apply Kd.R_drew)); exact HO_0.out)); (case aS => exact (below_size (by repeat (first | (with_reducible first | exact HB.out | apply below_alloc | apply pw_below_drewN | apply below_drew1) | exact HB.out)))); (case aL => have := LMc9.out; omega); intro v147 w11 ho hb hg hat; rw [← Ny146.out] at ho; have n0_ := Aside0.mk (hb); have n1_ := Aside0.mk (ho); clear HB; clear HO_0; have HB := n0_; have HO148 := n1_; clear n0_ n1_; clear ho hb hg hat))
                go_roundg k2
                case measure => have := HJ3.out; have := HK2.out; omega
                case rel => exact ⟨(y146), H', ⟨by have := HJ3.out; have := HK2.out; omega⟩, ⟨by (with_reducible repeat (first | apply Kd.R_alloc | apply Kd.R_drewN | apply Kd.R_drew)); exact HO148.out⟩, ⟨by repeat (first | (with_reducible first | exact HB.out | apply below_alloc | apply pw_below_drewN | apply below_drew1) | exact HB.out)⟩⟩
              · rw [if_neg c9] at H
                exact absurd H (by simp)
            · rw [if_neg c8] at H
              have c8b0 : decide ((x0_2.length : Int) ≤ a1) = false := decide_eq_false c8
              clear c8
              by_cases c12 : 0 ≤ a1
              · rw [if_pos c12] at H
                have c12b0 : decide (0 ≤ a1) = true := decide_eq_true c12
                clear c12
                by_cases c13 : a1 < (x0_2.length : Int)
                · rw [if_pos c13] at H
                  have c13b0 : decide (a1 < (x0_2.length : Int)) = true := decide_eq_true c13
                  clear c13
                  by_cases c14 : (rd x0_2 a1) < 9223372036854775807
                  · rw [if_pos c14] at H
                    have c14b0 : decide ((rd x0_2 a1) < 9223372036854775807) = true := decide_eq_true c14
                    clear c14
                    obtain ⟨y151, hy151⟩ : ∃ y_ : List Int, y_ = (x0_2.set (a1 : Int).toNat (wrap64 ((rd x0_2 a1) + 1))) := ⟨_, rfl⟩
                    replace H : (some y151) = some r := by first | (rw [hy151]; with_reducible exact H) | (have H2_ := (Option.bind_some _ _).symm.trans H; rw [hy151]; with_reducible exact H2_) | (have H2_ := (Option.bind_some _ _).symm.trans H; with_reducible exact H2_) | with_reducible exact H | (rw [hy151]; exact H) | exact H
                    have Ny151 := Aside0.mk hy151
                    clear hy151
                    obtain rfl := Option.some.inj H
                    obtain ⟨Ao16, co16, eo16⟩ := Kd.R_slice HO_0.out
                    subst eo16
                    have p149 : 0 ≤ (a1 : Int) := of_decide_eq_true (by first | (with_reducible assumption) | assumption)
                    have q149 : a1 < (x0_2.length : Int) := of_decide_eq_true (by first | (with_reducible assumption) | assumption)
                    obtain ⟨ad149, e149, hx149_0⟩ := Kd.at_int (Kd.R_reads' HO_0.out).2.2 a1 p149 q149
                    cases e149
                    replace p149 := eq_true p149
                    replace q149 := eq_true q149
                    have p150 : 0 ≤ (a1 : Int) := of_decide_eq_true (by first | (with_reducible assumption) | assumption)
                    have q150 : a1 < (x0_2.length : Int) := of_decide_eq_true (by first | (with_reducible assumption) | assumption)
                    obtain ⟨ad150, e150, hx150_0⟩ := Kd.at_int (Kd.R_reads' HO_0.out).2.2 a1 p150 q150
                    obtain rfl : ad149 = ad150 := (by injection e150)
                    replace p150 := eq_true p150
                    replace q150 := eq_true q150
                    have p15 : 0 ≤ (a1 : Int) := of_decide_eq_true (by first | (with_reducible assumption) | assumption)
                    have q15 : (a1 : Int) < ((x0_2.length : Int) : Int) := of_decide_eq_true (by first | (with_reducible assumption) | assumption)
                    obtain ⟨go15, co15, eo15, gb15, gl15, cl15, HG15⟩ := Kd.R_form HO_0.out (by omega)
                    (first | cases eo15 | (injection eo15 with ea_ en_ ec_; (first | subst ea_ | (injection ea_ with ea_; subst ea_)); subst ec_; clear en_))
                    have GB15 := Aside0.mk gb15
                    have GG15 := Aside0.mk HG15
                    clear gb15 gl15 HG15
                    (first | simp only [add_plain] at hx149_0 | skip)
                    (first | simp only [add_plain] at hx150_0 | skip)
                    obtain ⟨hx15_0, hf15_0⟩ := Kd.R_celln 0 HO_0.out (a1 : Int) p15 q15
                    replace p15 := eq_true p15
                    replace q15 := eq_true q15
                    have HP17 := Kd.R_putg HO_0.out (a1 : Int) (wrap64 ((rd x0_2 a1) + 1))
                    go_wp2_with (first | ((with_reducible refine gate_store (t := 3) (p := 31) rfl ?_); refine store_event (t := 3) (p := 31) (v := ?vo_w18) (w1 := (wr.setCell ⟨go15, (a1 : Int).toNat, none⟩ (.int .i64 (wrap64 ((rd x0_2 a1) + 1))))) ?hg ?ho ?hn ?hr ?_; (case ho => rfl); (case hg => rfl); (case hn => rfl); (case hr => first | (go_simp; done) | (go_simp; rfl)); intro w18 hw; have hg : wr.grownBy w18 (some go15) := (by rw [hw]; exact HP17.2); have hp_ : Kd.R (Kd.int .i64) 3 w18 w.heap.size (fun _ => True) (.slice (some ⟨go15, 0, none⟩) x0_2.length co16) y151 := (by rw [hw, Ny151.out]; exact HP17.1); clear HP17; have n0_ := Aside0.mk (hp_); have n1_ := Aside0.mk ((by rw [hw]; exact below_set (HB.out) GB15.out : Below w.heap.size w w18)); clear HO_0; clear HB; have HO_0 := n0_; have HB := n1_; clear n0_ n1_; clear hg hw hp_))
                    go_ret
                    exact ⟨_, by first | rfl | (simp [errW_none, errW_some] <;> rfl) | (simp [*, errW_none, errW_some] <;> rfl), by (with_reducible repeat (first | apply Kd.R_alloc | apply Kd.R_drewN | apply Kd.R_drew)); exact HO_0.out, by repeat (first | (with_reducible first | exact HB.out | apply below_alloc | apply pw_below_drewN | apply below_drew1) | exact HB.out)⟩
                  · rw [if_neg c14] at H
                    have c14b0 : decide ((rd x0_2 a1) < 9223372036854775807) = false := decide_eq_false c14
                    clear c14
                    obtain rfl := Option.some.inj H
                    obtain ⟨Ao19, co19, eo19⟩ := Kd.R_slice HO_0.out
                    subst eo19
                    have p149 : 0 ≤ (a1 : Int) := of_decide_eq_true (by first | (with_reducible assumption) | assumption)
                    have q149 : a1 < (x0_2.length : Int) := of_decide_eq_true (by first | (with_reducible assumption) | assumption)
                    obtain ⟨ad149, e149, hx149_0⟩ := Kd.at_int (Kd.R_reads' HO_0.out).2.2 a1 p149 q149
                    cases e149
                    replace p149 := eq_true p149
                    replace q149 := eq_true q149
                    go_wp2
                    go_ret
                    exact ⟨_, by first | rfl | (simp [errW_none, errW_some] <;> rfl) | (simp [*, errW_none, errW_some] <;> rfl), by (with_reducible repeat (first | apply Kd.R_alloc | apply Kd.R_drewN | apply Kd.R_drew)); exact HO_0.out, by repeat (first | (with_reducible first | exact HB.out | apply below_alloc | apply pw_below_drewN | apply below_drew1) | exact HB.out)⟩
                · rw [if_neg c13] at H
                  exact absurd H (by simp)
              · rw [if_neg c12] at H
                exact absurd H (by simp)

/-! ### interleavelaw22_ClockTicks: function 11 -/
def interleavelaw22_ClockTicks.lit (t : Int) : List Int := [t, -1, 0, 1, 3, 4]
def interleavelaw22_ClockTicks.One (k : Nat) (l0 : List Int) (u : Int) : Prop := ∃ g g', clock_Tick.f l0 u = some g ∧ interleaveref22_Tick.f k l0 u = some g' ∧ interleaveref22_Equal.f k g g' = some true ∧ g.length ≤ 100
def interleavelaw22_ClockTicks.C (k : Nat) (l0 : List Int) (a1 : Int) : Prop :=
  interleavelaw22_awake.f k = some true ∧ (l0.length ≤ 60 → interleaveref22_Equal.f k l0 l0 = some true ∧ ∀ u ∈ interleavelaw22_ClockTicks.lit a1, interleavelaw22_ClockTicks.One k l0 u)
open Classical in
noncomputable def interleavelaw22_ClockTicks.f (k : Nat) (l0 : List Int) (a1 : Int) : Option Bool := if interleavelaw22_ClockTicks.C k l0 a1 then some true else none
theorem interleavelaw22_ClockTicks.lt_of (l : List Int) (h : l.length ≤ 60) : interleavelaw22_long.f l = some false := by
  unfold interleavelaw22_long.f; rw [decide_eq_false (by omega)]
theorem interleavelaw22_ClockTicks.gt_of (l : List Int) (h : ¬ l.length ≤ 60) : interleavelaw22_long.f l = some true := by
  unfold interleavelaw22_long.f; rw [decide_eq_true (by omega)]
theorem interleavelaw22_ClockTicks.front (w : World) (A : Option Addr) (l : List Int) (h : Kd.C (Kd.int .i64) w A (l.length + 1) (l ++ [77])) : Kd.C (Kd.int .i64) w A l.length l := by
  have h2 := Kd.C_take (m := l.length) (xs := l ++ [77]) (k := Kd.int .i64) (w := w) (A := A) (by simpa using h) (by simp)
  simpa using h2
theorem interleavelaw22_ClockTicks.reads {w : World} {base : Nat} {ok : Nat → Prop} {A : Option Addr} {c : Nat} {l : List Int} (h : Kd.R (Kd.int .i64) 3 w base ok (.slice A (l.length + 1) c) (l ++ [77])) : Kd.C (Kd.int .i64) w A (l.length + 1) (l ++ [77]) := by
  obtain ⟨A', c', e, _, hr⟩ := Kd.R_reads h
  injection e with e1 e2 e3
  subst e1
  simpa using hr
theorem interleavelaw22_ClockTicks.low {w : World} {base : Nat} {v : Value} {l : List Int} (h : Kd.R (Kd.int .i64) 3 w base (fun _ => True) v l) : Kd.R (Kd.int .i64) 3 w 0 (fun k => k < w.heap.size) v l :=
  Kd.R_lower (Kd.R_mono (Kd.R_bound h) (fun _ hk => hk.2.2.1)) (Nat.zero_le _)
theorem interleavelaw22_ClockTicks.rd_mem (t : Int) (j : Nat) (h : j < 6) : rd (interleavelaw22_ClockTicks.lit t) (j : Int) ∈ interleavelaw22_ClockTicks.lit t := by
  have hj : j < (interleavelaw22_ClockTicks.lit t).length := h
  unfold rd
  rw [Int.toNat_natCast, List.getD_eq_getElem?_getD, List.getElem?_eq_getElem hj]
  exact List.getElem_mem hj
set_option maxHeartbeats 8000000 in
set_option maxRecDepth 100000 in
theorem interleavelaw22_ClockTicks.calls_long (k : Nat) (A0 : Option Addr) (c0 : Nat) (l0 : List Int) (a1 : Int) (w : World) (hr0 : Kd.C (Kd.int .i64) w A0 l0.length l0) (hc0 : l0.length ≤ c0) (h : interleavelaw22_awake.f k = some true) (hl : ¬ l0.length ≤ 60) :
    Calls Try.prog 11 #[.slice A0 l0.length c0, .int .i64 a1] w fun e w' => e = .returned (.bool true) ∧ Below w.heap.size w w' := by
  have HR0 := Aside0.mk hr0
  have HC0 := Aside0.mk hc0
  have HH := Aside0.mk h
  have HL := Aside0.mk (interleavelaw22_ClockTicks.gt_of l0 hl)
  have HB := Aside0.mk (Below.refl w.heap.size w)
  clear hr0 hc0 h hl
  go_enter Try.func11, Try.ntmps11
  go_wp2_with fail
  refine (interleavelaw22_long.calls _ _ l0 true _ HR0.out HC0.out HL.out).mono ?_
  rintro e w' ⟨rfl, ⟨nd, rfl⟩⟩
  go_wp2_with fail
  refine (interleavelaw22_awake.calls k true _ HH.out).mono ?_
  rintro e w' ⟨rfl, hb⟩
  have HB' := Aside0.mk (below_step (by repeat (first | (with_reducible first | exact HB.out | apply below_alloc | apply pw_below_drewN | apply below_drew1) | exact HB.out)) hb)
  clear hb HB
  go_wp2
  go_ret
  exact ⟨rfl, HB'.out⟩
set_option maxHeartbeats 8000000 in
set_option maxRecDepth 100000 in
theorem interleavelaw22_ClockTicks.calls_short (k : Nat) (A0 : Option Addr) (c0 : Nat) (l0 : List Int) (a1 : Int) (w : World) (hr0 : Kd.C (Kd.int .i64) w A0 l0.length l0) (hc0 : l0.length ≤ c0) (h : interleavelaw22_awake.f k = some true) (hl0 : l0.length ≤ 60)
    (he0 : interleaveref22_Equal.f k l0 l0 = some true) (hone : ∀ u ∈ interleavelaw22_ClockTicks.lit a1, interleavelaw22_ClockTicks.One k l0 u) :
    Calls Try.prog 11 #[.slice A0 l0.length c0, .int .i64 a1] w fun e w' => e = .returned (.bool true) ∧ Below w.heap.size w w' := by
  have HR0 := Aside0.mk hr0
  have HC0 := Aside0.mk hc0
  have HH := Aside0.mk h
  have HL0 := Aside0.mk (interleavelaw22_ClockTicks.lt_of l0 hl0)
  have HE0 := Aside0.mk he0
  have HONE := Aside0.mk hone
  have HB := Aside0.mk (Below.refl w.heap.size w)
  clear hr0 hc0 h he0 hone
  go_enter Try.func11, Try.ntmps11
  go_wp2_with fail
  refine (interleavelaw22_long.calls _ _ l0 false _ HR0.out HC0.out HL0.out).mono ?_
  rintro e w' ⟨rfl, ⟨nd, rfl⟩⟩
  go_wp2_with (first | ((with_reducible refine gate_dst (N := 14) rfl ?_); refine Kd.R_lit (Kd.int .i64) _ 3 ?hg (N := 14) ?hd (xs := interleavelaw22_ClockTicks.lit a1) (inner := [.int .i64 a1, .int .i64 (-1), .int .i64 0, .int .i64 1, .int .i64 3, .int .i64 4]) (ok := fun _ => True) (okp := fun _ => True) ?hr ?hp (fun _ hk => hk) trivial (Below.refl _ _) (Nat.le_refl _) (by simp [interleavelaw22_ClockTicks.lit]) ?_; (case hd => rfl); (case hg => rfl); (case hr => first | (go_simp; done) | (go_simp; rfl)); (case hp => exact (Reps.one (show Kd.M (Kd.int .i64) _ _ _ a1 [.int .i64 a1] from rfl) (Reps.one (show Kd.M (Kd.int .i64) _ _ _ (-1) [.int .i64 (-1)] from rfl) (Reps.one (show Kd.M (Kd.int .i64) _ _ _ 0 [.int .i64 0] from rfl) (Reps.one (show Kd.M (Kd.int .i64) _ _ _ 1 [.int .i64 1] from rfl) (Reps.one (show Kd.M (Kd.int .i64) _ _ _ 3 [.int .i64 3] from rfl) (Reps.one (show Kd.M (Kd.int .i64) _ _ _ 4 [.int .i64 4] from rfl) (Reps.none _ _)))))))); intro v14 w1 ho hb hg_ hnew_; clear hg_ hnew_; have HT := Aside0.mk (interleavelaw22_ClockTicks.low ho); have n1_ := Aside0.mk (below_step (by repeat (first | (with_reducible first | exact HB.out | apply below_alloc | apply pw_below_drewN | apply below_drew1) | exact HB.out)) hb); clear HB; have HB := n1_; clear n1_; clear hb ho; obtain ⟨go, cg, eg, gb, gl, cl, HGg⟩ := Kd.R_form HT.out (by simp [interleavelaw22_ClockTicks.lit]); subst eg; clear gb HGg; simp only [show (interleavelaw22_ClockTicks.lit a1).length = 6 from rfl]; simp only [show (interleavelaw22_ClockTicks.lit a1).length = 6 from rfl] at HT))
  go_loopw [16] (fun v wr => ∃ (j : Nat), v = .int .i64 (j : Int) ∧ j ≤ 6 ∧ Aside0 (Kd.R (Kd.int .i64) 3 wr 0 (fun k => k < w1.heap.size) (.slice (some ⟨go, 0, none⟩) 6 cg) (interleavelaw22_ClockTicks.lit a1)) ∧ Aside0 (Below w.heap.size w wr) ∧ Aside0 (w1.heap.size ≤ wr.heap.size)) (fun v _ => 6 - (intOf v).toNat)
  case atStart => exact ⟨0, rfl, by omega, HT, HB, ⟨Nat.le_refl _⟩⟩
  case round =>
    have HSW := Aside0.mk (below_size HB.out)
    clear HB HT
    obtain ⟨j, rfl, hj6, HT, HB, HS⟩ := hrel
    by_cases hlt : j < 6
    · obtain ⟨hx18, hf18⟩ := Kd.R_celln 0 HT.out (j : Int) (by omega) (by omega)
      obtain ⟨u, hu⟩ : ∃ u, u = rd (interleavelaw22_ClockTicks.lit a1) (j : Int) := ⟨_, rfl⟩
      have hx18' : wr.cell? ⟨go, j, none⟩ = some (.int .i64 u) := by rw [hu]; exact hx18
      obtain ⟨g, g', hg, hg', he, hgl⟩ := HONE.out u (by rw [hu]; exact interleavelaw22_ClockTicks.rd_mem a1 j hlt)
      have HG := Aside0.mk hg
      have HG' := Aside0.mk hg'
      have HE := Aside0.mk he
      clear hu hg hg' he hx18 hf18
      go_wp2_with fail
      refine (interleavelaw22_spare.calls _ _ l0 _ (Kd.C_below HR0.out HB.out) hl0).mono ?_
      rintro e w3 ⟨Ax, cx, rfl, hcx, hx, hb⟩
      have n1_ := Aside0.mk (below_step (by repeat (first | (with_reducible first | exact HB.out | apply below_alloc | apply pw_below_drewN | apply below_drew1) | exact HB.out)) hb)
      have n2_ := Aside0.mk (Kd.R_below HT.out hb)
      have n3_ := Aside0.mk (Nat.le_trans HS.out hb.size)
      have HX := Aside0.mk (interleavelaw22_ClockTicks.low hx)
      have HCX := Aside0.mk hcx
      clear HB HT HS hb hx hcx
      have HB := n1_
      have HT := n2_
      have HS := n3_
      clear n1_ n2_ n3_
      go_wp2_with fail
      refine (clock_Tick.calls _ _ l0 u g _ (interleavelaw22_ClockTicks.front _ _ _ (interleavelaw22_ClockTicks.reads HX.out)) (by have := HCX.out; omega) HG.out).mono ?_
      rintro e w5 ⟨v5, rfl, ho, hb⟩
      have n1_ := Aside0.mk (below_step (by repeat (first | (with_reducible first | exact HB.out | apply below_alloc | apply pw_below_drewN | apply below_drew1) | exact HB.out)) hb)
      have n2_ := Aside0.mk (Kd.R_below HX.out hb)
      have n3_ := Aside0.mk (Kd.R_below HT.out hb)
      have n4_ := Aside0.mk (Nat.le_trans HS.out hb.size)
      have HO := Aside0.mk ho
      clear HB HX HT hb ho
      have HB := n1_
      have HX := n2_
      have HT := n3_
      clear n1_ n2_ n3_
      have HS5 := n4_
      clear n4_
      go_wp2_with fail
      refine (interleaveref22_Tick.calls k _ _ l0 u g' _ (Kd.C_below HR0.out HB.out) HC0.out HG'.out).mono ?_
      rintro e w6 ⟨v6, rfl, ho', hb⟩
      have n1_ := Aside0.mk (below_step (by repeat (first | (with_reducible first | exact HB.out | apply below_alloc | apply pw_below_drewN | apply below_drew1) | exact HB.out)) hb)
      have n2_ := Aside0.mk (Kd.R_below HX.out hb)
      have n3_ := Aside0.mk (Kd.R_below HT.out hb)
      have n4_ := Aside0.mk (Kd.R_below HO.out hb)
      have n5_ := Aside0.mk (Nat.le_trans HS5.out hb.size)
      have HO' := Aside0.mk ho'
      clear HB HX HT HO HS5 hb ho'
      have HB := n1_
      have HX := n2_
      have HT := n3_
      have HO := n4_
      have HS6 := n5_
      clear n1_ n2_ n3_ n4_ n5_
      obtain ⟨Ao, co, eo, hlo, hro⟩ := Kd.R_reads HO.out
      subst eo
      obtain ⟨Ap, cp, ep, hlp, hrp⟩ := Kd.R_reads HO'.out
      subst ep
      have HRO := Aside0.mk hro
      have HRP := Aside0.mk hrp
      have HLO := Aside0.mk hlo
      have HLP := Aside0.mk hlp
      clear hro hrp hlo hlp
      go_wp2_with fail
      refine (interleaveref22_Equal.calls k _ _ g _ _ g' true _ HRO.out HLO.out HRP.out HLP.out HE.out).mono ?_
      rintro e w' ⟨rfl, ⟨nd3, rfl⟩⟩
      go_wp2_with fail
      refine (interleavelaw22_kept.calls k _ _ l0 _ _ l0 _ (interleavelaw22_ClockTicks.reads (Kd.R_drewN HX.out nd3)) HCX.out hl0 (Kd.C_drewN (Kd.C_below HR0.out HB.out) nd3) HC0.out HE0.out).mono ?_
      rintro e w' ⟨rfl, ⟨nd4, rfl⟩⟩
      have n1_ := Aside0.mk (Kd.R_drewN HX.out (nd3 + nd4))
      have n2_ := Aside0.mk (Kd.R_drewN HT.out (nd3 + nd4))
      have n3_ := Aside0.mk (Kd.R_drewN HO.out (nd3 + nd4))
      have n4_ : Aside0 (Below w.heap.size w (w6.drewN (nd3 + nd4))) := ⟨(by repeat (first | (with_reducible first | exact HB.out | apply below_alloc | apply pw_below_drewN | apply below_drew1) | exact HB.out))⟩
      have n5_ : Aside0 (w1.heap.size ≤ (w6.drewN (nd3 + nd4)).heap.size) := ⟨HS6.out⟩
      clear HX HT HO HB HRO HRP HLO HLP HO' HS6
      clear hx18'
      go_wp2_with fail
      go_loopw [39] (fun v wq => ∃ (i : Int) (z : List Int), v = .int .i64 i ∧ 0 ≤ i ∧ i ≤ (g.length : Int) ∧ Aside0 (z.length = g.length) ∧ Aside0 (Kd.R (Kd.int .i64) 3 wq w3.heap.size (fun _ => True) (.slice Ao g.length co) z) ∧ Aside0 (Kd.R (Kd.int .i64) 3 wq 0 (fun k => k < w3.heap.size) (.slice Ax (l0.length + 1) cx) (l0 ++ [77])) ∧ Aside0 (Kd.R (Kd.int .i64) 3 wq 0 (fun k => k < w1.heap.size) (.slice (some ⟨go, 0, none⟩) 6 cg) (interleavelaw22_ClockTicks.lit a1)) ∧ Aside0 (Below w.heap.size w wq) ∧ Aside0 (w1.heap.size ≤ wq.heap.size)) (fun v _ => g.length - (intOf v).toNat)
      case atStart => exact ⟨0, g, rfl, by omega, by omega, ⟨rfl⟩, n3_, n1_, n2_, n4_, n5_⟩
      case round =>
        clear n1_ n2_ n3_ n4_ n5_
        obtain ⟨i, z, rfl, hi0, hi1, HZ, HO, HX, HT, HB, HS6⟩ := hrel
        by_cases hli : i < (g.length : Int)
        · obtain ⟨gq, co', eo, gb, glq, clq, HGg⟩ := Kd.R_form HO.out (by have := HZ.out; omega)
          injection eo with e1 e2 e3
          subst e1 e3
          clear e2
          obtain ⟨hx44, hf44⟩ := Kd.R_celln 0 HO.out i hi0 hli
          have hp := Kd.R_putg HO.out i (-5)
          have n1_ := Aside0.mk (hp.1)
          have n2_ := Aside0.mk (Kd.R_far (p := ⟨gq, i.toNat, none⟩) HX.out (fun k_ hk e_ => by have : k_ = gq := e_; omega) (.int .i64 (-5)))
          have n3_ := Aside0.mk (Kd.R_far (p := ⟨gq, i.toNat, none⟩) HT.out (fun k_ hk e_ => by have : k_ = gq := e_; have := HS.out; omega) (.int .i64 (-5)))
          have n4_ := Aside0.mk (below_set (j := i.toNat) (v := .int .i64 (-5)) HB.out (Nat.le_trans HSW.out (Nat.le_trans HS.out gb)))
          have n5_ : Aside0 (w1.heap.size ≤ (wr.setCell ⟨gq, i.toNat, none⟩ (.int .i64 (-5))).heap.size) := ⟨by have := HS6.out; simp; omega⟩
          clear hp HGg
          go_wp2
          go_roundw
          case rel => exact ⟨i + 1, z.set i.toNat (-5), rfl, by omega, by omega, ⟨by rw [List.length_set]; exact HZ.out⟩, n1_, n2_, n3_, n4_, n5_⟩
          case measure => simp [intOf]; omega
        · have hie : (i < (g.length : Int)) = False := eq_false hli
          go_wp2_with fail
          refine (interleavelaw22_kept.calls k _ _ l0 _ _ l0 _ (interleavelaw22_ClockTicks.reads HX.out) HCX.out hl0 (Kd.C_below HR0.out HB.out) HC0.out HE0.out).mono ?_
          rintro e w' ⟨rfl, ⟨nd5, rfl⟩⟩
          go_wp2
          go_roundw
          case rel => exact ⟨j + 1, by first | rfl | (simp; done), by omega, ⟨Kd.R_drewN HT.out nd5⟩, ⟨(by repeat (first | (with_reducible first | exact HB.out | apply below_alloc | apply pw_below_drewN | apply below_drew1) | exact HB.out))⟩, ⟨HS6.out⟩⟩
          case measure => simp [intOf]; omega
    · have hje : ((j : Int) < 6) = False := eq_false (by omega)
      go_wp2_with fail
      refine (interleavelaw22_awake.calls k true _ HH.out).mono ?_
      rintro e w' ⟨rfl, hb⟩
      have HB' := Aside0.mk (below_step (by repeat (first | (with_reducible first | exact HB.out | apply below_alloc | apply pw_below_drewN | apply below_drew1) | exact HB.out)) hb)
      clear hb
      go_wp2
      go_ret
      exact ⟨rfl, HB'.out⟩
theorem interleavelaw22_ClockTicks.calls (k : Nat) (A0 : Option Addr) (c0 : Nat) (l0 : List Int) (a1 : Int) (r : Bool) (w : World) (hr0 : Kd.C (Kd.int .i64) w A0 l0.length l0) (hc0 : l0.length ≤ c0) (h : interleavelaw22_ClockTicks.f k l0 a1 = some r) :
    Calls Try.prog 11 #[.slice A0 l0.length c0, .int .i64 a1] w fun e w' => e = .returned (.bool r) ∧ Below w.heap.size w w' := by
  unfold interleavelaw22_ClockTicks.f at h
  by_cases hC : interleavelaw22_ClockTicks.C k l0 a1
  · rw [if_pos hC] at h
    obtain rfl := Option.some.inj h
    obtain ⟨ha, hC⟩ := hC
    by_cases hl0 : l0.length ≤ 60
    · obtain ⟨he0, hone⟩ := hC hl0
      exact interleavelaw22_ClockTicks.calls_short k A0 c0 l0 a1 w hr0 hc0 ha hl0 he0 hone
    · exact interleavelaw22_ClockTicks.calls_long k A0 c0 l0 a1 w hr0 hc0 ha hl0
  · rw [if_neg hC] at h; exact absurd h (by simp)


/-- THE ONE PURE STATEMENT of interleavelaw22_ClockTicks: yours. -/
def interleavelaw22_ClockTicks.Pure : Prop := ∀ (l0 : List Int) (a1 : Int), l0.length ≤ maxLen → l0.length * 8 ≤ 140737488351232 → (∀ x ∈ l0, (Lit.int .i64 x).wf = true) → (Lit.int .i64 a1).wf = true → ∃ k, interleavelaw22_ClockTicks.f k l0 a1 = some true
theorem interleavelaw22_ClockTicks.walk (P : interleavelaw22_ClockTicks.Pure) (a0 : Option Addr) (len0 cap0 : Nat) (z0 : List Int) (a1 : Int) (w : World) (w0 : (a0 = none ∧ len0 = 0 ∧ cap0 = 0 ∧ z0 = []) ∨ ∃ x, a0 = some x ∧ len0 ≤ cap0 ∧ cap0 ≤ maxLen ∧ z0.length = cap0 ∧ (∀ i, i < z0.length → w.cell? (x.add i) = some (.int .i64 (z0.getD i 0))) ∧ ∀ n ∈ z0, (Lit.int .i64 n).wf = true) (y0 : len0 * 8 ≤ 140737488351232) (w1 : (Lit.int .i64 a1).wf = true) :
    Calls Try.prog 11 #[.slice a0 len0 cap0, .int .i64 a1] w fun e w' => e = .returned (.bool true) ∧ Below w.heap.size w w' := by
  obtain ⟨l0, rfl, hr0, hm0, hw0, hc0⟩ := ReadsInt.ofRowC w0
  obtain ⟨k, h⟩ := P l0 a1 hm0 y0 hw0 w1
  refine (interleavelaw22_ClockTicks.calls k _ _ l0 a1 true w (Kd.C_of_reads (d := (0 : Int)) (h1 := fun _ => rfl) hr0) hc0 h).mono ?_
  rintro e w' ⟨rfl, hd⟩
  exact ⟨rfl, hd⟩
end Go.Proofs.Ytdbpdhbabolooaa.MClockTicks
