-- Written by a program of this session (wip/myprint in its repo: the kit's print with additions of its own).
import Derived.Test.YtolfnlamknmeaaaMDiffGreatestx0
namespace Go.Proofs.Ytolfnlamknmeaaa.MDiffGreatest
open Go.RowKit Go.Proofs.YtolfnlamknmeaaaW.PrintWords Go.Proofs.YtolfnlamknmeaaaW.PrintLast Go.Proofs.YtolfnlamknmeaaaW.PrintMore
attribute [local go_sem] max2_int min2_int max_two min_two max_three min_three max_four min_four   -- for this text's walks alone
set_option linter.unusedVariables false
set_option linter.unusedSimpArgs false

/-- A state of type 60 at block g of W; what its slices lead to came in by w0. -/
def IsS60 (w0 W : World) (g : Nat) (f0 : List Int) (f1 : Int) : Prop := ∃ A0 c0, W.heap[g]? = some (.cells #[.slice A0 f0.length c0, .int .i64 f1] 60 (0, 0)) ∧ w0.heap.size ≤ g ∧ Kd.C (Kd.int .u8) w0 A0 f0.length f0
theorem IsS60.grown {w0 W : World} {g : Nat} {f0 : List Int} {f1 : Int} {W1 : World} {row : Option Nat} (h : IsS60 w0 W g f0 f1) (hw : W.grownBy W1 row) (hne : some g ≠ row) : IsS60 w0 W1 g f0 f1 := by
  obtain ⟨A0, c0, hb, hg, hr0⟩ := h
  exact ⟨A0, c0, blk_grown hb hw hne, hg, hr0⟩
theorem IsS60.own_neN {w0 W : World} {g : Nat} {f0 : List Int} {f1 : Int} {α : Type} {d : Kd α} {e : Nat} {base : Nat} {ok : Nat → Prop} {v : Value} {xs : List α} (h : IsS60 w0 W g f0 f1) (ho : Kd.N d e W base ok v xs) (ht : e ≠ 60) : some g ≠ v.ownBlock := by
  obtain ⟨A0, c0, hb, hg, hr0⟩ := h
  exact Kd.N_ne ho hb ht
theorem IsS60.fresh {w0 W : World} {g : Nat} {f0 : List Int} {f1 : Int} (h : IsS60 w0 W g f0 f1) : ∀ k, W.heap.size ≤ k → k ≠ g := by
  obtain ⟨A0, c0, hb, hg, hr0⟩ := h
  exact Kd.freshB hb
theorem IsS60.kept {w0 W : World} {g : Nat} {f0 : List Int} {f1 : Int} {W1 : World} {S : Nat → Prop} (h : IsS60 w0 W g f0 f1) (hk : Kept W W1 S) (hne : ¬ S g) : IsS60 w0 W1 g f0 f1 := by
  obtain ⟨A0, c0, hb, hg, hr0⟩ := h
  exact ⟨A0, c0, blk_kept hb hk hne, hg, hr0⟩
theorem IsS60.below {w0 W : World} {g : Nat} {f0 : List Int} {f1 : Int} {W1 : World} (h : IsS60 w0 W g f0 f1) (hw : Below W.heap.size W W1) : IsS60 w0 W1 g f0 f1 := h.grown (grown_of_below hw none) (by simp)
theorem IsS60.alloc {w0 W : World} {g : Nat} {f0 : List Int} {f1 : Int} (h : IsS60 w0 W g f0 f1) (o : Obj) : IsS60 w0 (W.alloc o) g f0 f1 := h.below (below_alloc (Below.refl _ _) o)
theorem IsS60.drewN {w0 W : World} {g : Nat} {f0 : List Int} {f1 : Int} (h : IsS60 w0 W g f0 f1) (m : Nat) : IsS60 w0 (W.drewN m) g f0 f1 := h
theorem IsS60.drew {w0 W : World} {g : Nat} {f0 : List Int} {f1 : Int} (h : IsS60 w0 W g f0 f1) : IsS60 w0 W.drew g f0 f1 := h
theorem IsS60.at_ {w0 W : World} {g : Nat} {f0 : List Int} {f1 : Int} {w' : World} {m : Nat} (hq : W.drewN m = w') (h : IsS60 w0 W g f0 f1) : IsS60 w0 w' g f0 f1 := by subst hq; exact IsS60.drewN h m
theorem IsS60.apart {w0 W : World} {g : Nat} {f0 : List Int} {f1 : Int} {α : Type} {d : Kd α} {e : Nat} {base : Nat} {ok : Nat → Prop} {v : Value} {xs : List α} (h : IsS60 w0 W g f0 f1) (ho : d.R e W base ok v xs) (ht : ∀ q, q ∈ e :: d.E → q ≠ 60) : d.R e W base (fun k => ok k ∧ k ≠ g) v xs := by
  obtain ⟨A0, c0, hb, hg, hr0⟩ := h
  exact Kd.R_types ho hb ht
theorem IsS60.own_ne {w0 W : World} {g : Nat} {f0 : List Int} {f1 : Int} {α : Type} {d : Kd α} {e : Nat} {base : Nat} {ok : Nat → Prop} {v : Value} {xs : List α} (h : IsS60 w0 W g f0 f1) (ho : d.R e W base ok v xs) (ht : e ≠ 60) : some g ≠ v.ownBlock := by
  obtain ⟨A0, c0, hb, hg, hr0⟩ := h
  exact Kd.R_ne ho hb ht
theorem IsS60.apartQ {w0 W : World} {g : Nat} {f0 : List Int} {f1 : Int} {α : Type} {d : Kd α} {e : Nat} {base : Nat} {ok : Nat → Prop} {v : Value} {xs : List α} (h : IsS60 w0 W g f0 f1) (ho : d.Q e W base ok v xs) (ht : ∀ q, q ∈ e :: d.E → q ≠ 60) : d.Q e W base (fun k => ok k ∧ k ≠ g) v xs := by
  obtain ⟨A0, c0, hb, hg, hr0⟩ := h
  exact Kd.Q_types ho hb ht
theorem IsS60.own_neQ {w0 W : World} {g : Nat} {f0 : List Int} {f1 : Int} {α : Type} {d : Kd α} {e : Nat} {base : Nat} {ok : Nat → Prop} {v : Value} {xs : List α} (h : IsS60 w0 W g f0 f1) (ho : d.Q e W base ok v xs) (ht : e ≠ 60) : some g ≠ v.ownBlock := by
  obtain ⟨A0, c0, hb, hg, hr0⟩ := h
  exact Kd.Q_ne ho hb ht
theorem IsS60.apartS {w0 W : World} {g : Nat} {f0 : List Int} {f1 : Int} {α : Type} {d : Kd α} {e : Nat} {base : Nat} {ok : Nat → Prop} {v : Value} {xs : List α} (h : IsS60 w0 W g f0 f1) (ho : d.S e W base ok v xs) (ht : ∀ q, q ∈ e :: d.E → q ≠ 60) : d.S e W base (fun k => ok k ∧ k ≠ g) v xs := by
  obtain ⟨A0, c0, hb, hg, hr0⟩ := h
  exact Kd.S_types ho hb ht
theorem IsS60.own_neS {w0 W : World} {g : Nat} {f0 : List Int} {f1 : Int} {α : Type} {d : Kd α} {e : Nat} {base : Nat} {ok : Nat → Prop} {v : Value} {xs : List α} (h : IsS60 w0 W g f0 f1) (ho : d.S e W base ok v xs) (ht : e ≠ 60) : some g ≠ v.ownBlock := by
  obtain ⟨A0, c0, hb, hg, hr0⟩ := h
  exact Kd.S_ne ho hb ht
theorem IsS60.lt {w0 W : World} {g : Nat} {f0 : List Int} {f1 : Int} (h : IsS60 w0 W g f0 f1) : g < W.heap.size := by
  obtain ⟨A0, c0, hb, hg, hr0⟩ := h
  exact blk_lt hb
theorem IsS60.ge {w0 W : World} {g : Nat} {f0 : List Int} {f1 : Int} (h : IsS60 w0 W g f0 f1) : w0.heap.size ≤ g := by
  obtain ⟨A0, c0, hb, hg, hr0⟩ := h
  exact hg
theorem IsS60.ne_blk {w0 W : World} {g : Nat} {f0 : List Int} {f1 : Int} {a : Nat} {cs : Array Value} {t : TypeId} {fr : Nat × Nat} (h : IsS60 w0 W g f0 f1) (hb2 : W.heap[a]? = some (.cells cs t fr)) (ht : t ≠ 60) : g ≠ a := by
  obtain ⟨A0, c0, hb, hg, hr0⟩ := h
  rintro rfl
  rw [hb] at hb2
  injection hb2 with hb2
  injection hb2 with _ ht2
  exact ht ht2.symm
theorem IsS60.far {w0 W : World} {g : Nat} {f0 : List Int} {f1 : Int} {p : Addr} (h : IsS60 w0 W g f0 f1) (hne : g ≠ p.block) (u : Value) : IsS60 w0 (W.setCell p u) g f0 f1 := by
  obtain ⟨A0, c0, hb, hg, hr0⟩ := h
  exact ⟨A0, c0, blk_far hb hne u, hg, hr0⟩
theorem cellS60_0 {W : World} {g : Nat} {A0 : Option Addr} {c0 : Nat} {f0 : List Int} {f1 : Int} (h : W.heap[g]? = some (.cells #[.slice A0 f0.length c0, .int .i64 f1] 60 (0, 0))) : W.cell? ⟨g, 0, none⟩ = some (.slice A0 f0.length c0) := (blk_cell h 0).trans rfl
theorem cellS60_1 {W : World} {g : Nat} {A0 : Option Addr} {c0 : Nat} {f0 : List Int} {f1 : Int} (h : W.heap[g]? = some (.cells #[.slice A0 f0.length c0, .int .i64 f1] 60 (0, 0))) : W.cell? ⟨g, 1, none⟩ = some (.int .i64 f1) := (blk_cell h 1).trans rfl
theorem IsS60.set_1 {w0 W : World} {g : Nat} {f0 : List Int} {f1 : Int} (h : IsS60 w0 W g f0 f1) (x : Int) : IsS60 w0 (W.setCell ⟨g, 1, none⟩ (.int .i64 x)) g f0 x := by
  obtain ⟨A0, c0, hb, hg, hr0⟩ := h
  exact ⟨A0, c0, by simpa using blk_set hb 1 (.int .i64 x), hg, hr0⟩
theorem IsS60.new (w0 W : World) (A0 : Option Addr) (c0 : Nat) (f0 : List Int) (f1 : Int) (hB : Below w0.heap.size w0 W) (hr0 : Kd.C (Kd.int .u8) w0 A0 f0.length f0) : IsS60 w0 (W.alloc (.cells #[.slice A0 f0.length c0, .int .i64 f1] 60)) W.heap.size f0 f1 := ⟨A0, c0, by simpa using heap_alloc_new W _, hB.size, hr0⟩

/-! ### interleavemade_Tape_Next: function 31 -/
def interleavemade_Tape_Next.f (s0_0 : List Int) (s0_1 : Int) (a1 : Int) : Option (Int × Int) := if s0_1 ≥ (s0_0.length : Int) then (some (0, s0_1)) else (if a1 < 1 then (some (0, s0_1)) else (if 0 ≤ (wrap64 ((wrap64 (s0_1 + 1)) - 1)) then (if (wrap64 ((wrap64 (s0_1 + 1)) - 1)) < (s0_0.length : Int) then (if a1 = 0 then (none) else (some (Int.tmod (wrap64 (rd s0_0 (wrap64 ((wrap64 (s0_1 + 1)) - 1)))) a1, wrap64 (s0_1 + 1)))) else (none)) else (none)))
set_option maxHeartbeats 8000000 in
set_option maxRecDepth 100000 in
theorem interleavemade_Tape_Next.calls (g : Nat) (s0_0 : List Int) (s0_1 : Int) (a1 : Int) (r1 : Int) (r2 : Int) (w0 w : World) (hI : IsS60 w0 w g s0_0 s0_1) (hB : Below w0.heap.size w0 w) (h : interleavemade_Tape_Next.f s0_0 s0_1 a1 = some (r1, r2)) :
    Calls Try.prog 31 #[.pointer (some ⟨g, 0, none⟩), .int .i64 a1] w fun e w' => e = .returned (.int .i64 r1) ∧ IsS60 w0 w' g s0_0 r2 ∧ Below w0.heap.size w0 w' ∧ KeepBut w w' g none := by
  have HI0 := Aside0.mk hI
  have HK := Aside0.mk (KeepBut.refl w g none)
  have HL := Aside0.mk hB.size
  clear hI
  have HW0 := Aside0.mk hB.size
  have HB := Aside0.mk hB
  clear hB
  have H : (if s0_1 ≥ (s0_0.length : Int) then (some (0, s0_1)) else (if a1 < 1 then (some (0, s0_1)) else (if 0 ≤ (wrap64 ((wrap64 (s0_1 + 1)) - 1)) then (if (wrap64 ((wrap64 (s0_1 + 1)) - 1)) < (s0_0.length : Int) then (if a1 = 0 then (none) else (some (Int.tmod (wrap64 (rd s0_0 (wrap64 ((wrap64 (s0_1 + 1)) - 1)))) a1, wrap64 (s0_1 + 1)))) else (none)) else (none)))) = some (r1, r2) := h
  clear h
  by_cases c3 : s0_1 ≥ (s0_0.length : Int)
  · rw [if_pos c3] at H
    have c3b0 : decide ((s0_0.length : Int) ≤ s0_1) = true := decide_eq_true c3
    clear c3
    simp only [Option.some.injEq, Prod.mk.injEq] at H
    obtain ⟨rfl, rfl⟩ := H
    obtain ⟨ASz4_0, cSz4_0, HGz4, hgz4, HSz4_0⟩ := HI0.out
    have hcz4_0 := cellS60_0 HGz4
    have hcz4_1 := cellS60_1 HGz4
    have hfz4_1 := blk_frozen HGz4 1
    clear HGz4 hgz4
    go_enter Try.func31, Try.ntmps31
    go_wp2
    repeat (go_quiet (fail); try go_wp2)
    go_ret
    exact ⟨by first | rfl | (simp [errW_none, errW_some] <;> rfl) | (simp [*, errW_none, errW_some] <;> rfl), by repeat (first | (with_reducible first | exact HI0.out | apply IsS60.alloc | apply IsS60.drewN | apply IsS60.drew | apply IsS60.set_1) | exact HI0.out), by repeat (first | (with_reducible first | exact HB.out | apply below_alloc | apply pw_below_drewN | apply below_drew1 | refine below_set ?_ (IsS60.ge HI0.out)) | exact HB.out), by repeat (first | (with_reducible first | exact HK.out | apply KeepBut.set_ | apply keep_drewN | apply keep_drew | apply keep_alloc) | exact HK.out)⟩
  · rw [if_neg c3] at H
    have c3b0 : decide ((s0_0.length : Int) ≤ s0_1) = false := decide_eq_false c3
    clear c3
    by_cases c5 : a1 < 1
    · rw [if_pos c5] at H
      have c5b0 : decide (a1 < 1) = true := decide_eq_true c5
      clear c5
      simp only [Option.some.injEq, Prod.mk.injEq] at H
      obtain ⟨rfl, rfl⟩ := H
      obtain ⟨ASz6_0, cSz6_0, HGz6, hgz6, HSz6_0⟩ := HI0.out
      have hcz6_0 := cellS60_0 HGz6
      have hcz6_1 := cellS60_1 HGz6
      have hfz6_1 := blk_frozen HGz6 1
      clear HGz6 hgz6
      go_enter Try.func31, Try.ntmps31
      go_wp2
      repeat (go_quiet (fail); try go_wp2)
      go_ret
      exact ⟨by first | rfl | (simp [errW_none, errW_some] <;> rfl) | (simp [*, errW_none, errW_some] <;> rfl), by repeat (first | (with_reducible first | exact HI0.out | apply IsS60.alloc | apply IsS60.drewN | apply IsS60.drew | apply IsS60.set_1) | exact HI0.out), by repeat (first | (with_reducible first | exact HB.out | apply below_alloc | apply pw_below_drewN | apply below_drew1 | refine below_set ?_ (IsS60.ge HI0.out)) | exact HB.out), by repeat (first | (with_reducible first | exact HK.out | apply KeepBut.set_ | apply keep_drewN | apply keep_drew | apply keep_alloc) | exact HK.out)⟩
    · rw [if_neg c5] at H
      have c5b0 : decide (a1 < 1) = false := decide_eq_false c5
      clear c5
      obtain ⟨ji7, hji7⟩ : ∃ j_ : Int, (wrap64 ((wrap64 (s0_1 + 1)) - 1)) = j_ := ⟨_, rfl⟩
      replace H : (if 0 ≤ (ji7) then (if (ji7) < (s0_0.length : Int) then (if a1 = 0 then (none) else (some (Int.tmod (wrap64 (rd s0_0 (ji7))) a1, wrap64 (s0_1 + 1)))) else (none)) else (none)) = some (r1, r2) := by first | (rw [hji7] at H; exact H) | (simp only [hji7] at H ⊢; exact H)
      have hji7w : (IntKind.i64.wrap ((wrap64 (s0_1 + 1)) - 1)) = ji7 := (i64_w _).trans hji7
      by_cases c8 : 0 ≤ (ji7)
      · rw [if_pos c8] at H
        have c8b0 : decide (0 ≤ (ji7)) = true := decide_eq_true c8
        clear c8
        by_cases c9 : (ji7) < (s0_0.length : Int)
        · rw [if_pos c9] at H
          have c9b0 : decide ((ji7) < (s0_0.length : Int)) = true := decide_eq_true c9
          clear c9
          by_cases c10 : a1 = 0
          · rw [if_pos c10] at H
            exact absurd H (by simp)
          · rw [if_neg c10] at H
            have c10b0 : (a1 == 0) = false := beq_eq_false_iff_ne.mpr c10
            have c10b1 : (a1 != 0) = true := bne_iff_ne.mpr c10
            simp only [Option.some.injEq, Prod.mk.injEq] at H
            obtain ⟨rfl, rfl⟩ := H
            obtain ⟨ASz11_0, cSz11_0, HGz11, hgz11, HSz11_0⟩ := HI0.out
            have hcz11_0 := cellS60_0 HGz11
            have hcz11_1 := cellS60_1 HGz11
            have hfz11_1 := blk_frozen HGz11 1
            clear HGz11 hgz11
            have p156 : 0 ≤ ((ji7) : Int) := of_decide_eq_true (by first | (with_reducible assumption) | assumption)
            have q156 : (ji7) < (s0_0.length : Int) := of_decide_eq_true (by first | (with_reducible assumption) | assumption)
            obtain ⟨ad156, e156, hx156_0⟩ := Kd.at_int HSz11_0 (ji7) p156 q156
            cases e156
            have hn156_0 : ad156.block ≠ g := Nat.ne_of_lt (Nat.lt_of_lt_of_le (by have := World.block_lt_of_cell? _ _ hx156_0; first | rwa [add_block] at this | exact this) (IsS60.ge HI0.out))
            replace hx156_0 := pw_cell_below HB.out hx156_0
            replace hx156_0 := (cell_far (p := ⟨g, 1, none⟩) (by first | (rw [add_block]; exact hn156_0) | (show (Addr.add _ _).block ≠ _; rw [add_block]; exact hn156_0) | exact hn156_0) (.int .i64 (wrap64 (s0_1 + 1)))).trans hx156_0
            (try have hy156_0 := fun (n_ : Nat) => (show (((w.drewN n_).setCell ⟨g, 1, none⟩ (.int .i64 (wrap64 (s0_1 + 1))))).cell? _ = some _ from hx156_0))
            clear hn156_0
            replace p156 := eq_true p156
            replace q156 := eq_true q156
            go_enter Try.func31, Try.ntmps31
            go_wp2
            repeat (go_quiet (fail); try go_wp2)
            go_ret
            exact ⟨by first | rfl | (simp [errW_none, errW_some] <;> rfl) | (simp only [← hji7]; first | rfl | (simp [errW_none, errW_some] <;> rfl)) | (simp [*, errW_none, errW_some] <;> rfl), by repeat (first | (with_reducible first | exact HI0.out | apply IsS60.alloc | apply IsS60.drewN | apply IsS60.drew | apply IsS60.set_1) | exact HI0.out), by repeat (first | (with_reducible first | exact HB.out | apply below_alloc | apply pw_below_drewN | apply below_drew1 | refine below_set ?_ (IsS60.ge HI0.out)) | exact HB.out), by repeat (first | (with_reducible first | exact HK.out | apply KeepBut.set_ | apply keep_drewN | apply keep_drew | apply keep_alloc) | exact HK.out)⟩
        · rw [if_neg c9] at H
          exact absurd H (by simp)
      · rw [if_neg c8] at H
        exact absurd H (by simp)

/-! ### interleavescene_Problem_Formula: function 27 -/
set_option maxHeartbeats 8000000 in
set_option maxRecDepth 100000 in
theorem interleavescene_Problem_Formula.next (w : World) (g : Nat) (A : Option Addr) (c : Nat) (L : List Int) (at_ : Nat) (hb : w.heap[g]? = some (.cells #[.slice A L.length c, .int .i64 (at_ : Int)] 60 (0, 0))) (hr : Kd.C (Kd.int .u8) w A L.length L) (hne : ∀ ad, A = some ad → 0 < L.length → ad.block ≠ g) (hu : ∀ x ∈ L, 0 ≤ x ∧ x ≤ 255) (hl : L.length ≤ 300) :
    Calls Try.prog 31 #[.pointer (some ⟨g, 0, none⟩), .int .i64 256] w fun e w' => ∃ (v : Int) (at' : Nat), e = .returned (.int .i64 v) ∧ 0 ≤ v ∧ v ≤ 255 ∧ at_ ≤ at' ∧ (at_ < L.length → at' = at_ + 1) ∧ (at' ≤ L.length ∨ at' = at_) ∧ w'.heap[g]? = some (.cells #[.slice A L.length c, .int .i64 (at' : Int)] 60 (0, 0)) ∧ KeepBut w w' g none ∧ ∀ (w0 : World), w0.heap.size ≤ g → Below w0.heap.size w0 w → Below w0.heap.size w0 w' := by
  have c0 : w.cell? ⟨g, 0, none⟩ = some (.slice A L.length c) := (blk_cell hb 0).trans rfl
  have c1 : w.cell? ⟨g, 1, none⟩ = some (.int .i64 (at_ : Int)) := (blk_cell hb 1).trans rfl
  have f1 : w.frozen? ⟨g, 1, none⟩ = false := blk_frozen hb 1
  have lg := blk_lt hb
  by_cases hlt : L.length ≤ at_
  · have hge : ((L.length : Int) ≤ (at_ : Int)) = True := eq_true (by omega)
    have HB := Aside0.mk hb
    clear hb hr hu hne hlt
    go_enter Try.func31, Try.ntmps31
    go_wp2
    go_quiet (fail)
    go_wp2
    go_ret
    exact ⟨0, at_, rfl, by omega, by omega, Nat.le_refl _, fun h => by have := of_eq_true hge; omega, .inr rfl, HB.out, KeepBut.refl _ _ _, fun w0 _ h => pw_below_drewN h _⟩
  · have hge : ((L.length : Int) ≤ (at_ : Int)) = False := eq_false (by omega)
    obtain ⟨ad, hA, hcx⟩ := Kd.at_int hr (at_ : Int) (by omega) (by omega)
    have hadg : ad.block ≠ g := hne ad hA (by omega)
    subst hA
    rw [Int.toNat_natCast] at hcx
    have hlx := World.block_lt_of_cell? w _ hcx
    obtain ⟨v, hv⟩ : ∃ v, v = rd L (at_ : Int) := ⟨_, rfl⟩
    rw [← hv] at hcx
    have hv2 : 0 ≤ v ∧ v ≤ 255 := by
      rw [hv]; unfold rd
      rw [Int.toNat_natCast, List.getD_eq_getElem?_getD, List.getElem?_eq_getElem (by omega)]
      exact hu _ (List.getElem_mem _)
    have hwrap : wrap64 ((at_ : Int) + 1) = (at_ : Int) + 1 := by unfold wrap64; omega
    have hwrap2 : wrap64 ((at_ : Int) + 1 - 1) = (at_ : Int) := by unfold wrap64; omega
    have hwrap3 : wrap64 (at_ : Int) = (at_ : Int) := by unfold wrap64; omega
    have h01 : (0 ≤ (at_ : Int)) = True := eq_true (by omega)
    have h02 : ((at_ : Int) < (L.length : Int)) = True := eq_true (by omega)
    have HB := Aside0.mk hb
    have HLT := Aside0.mk hlt
    have HV := Aside0.mk hv2
    have HL := Aside0.mk hl
    clear hb hr hu hne hlt hv hv2 hl
    go_enter Try.func31, Try.ntmps31
    go_wp2
    go_quiet (fail)
    go_wp2
    obtain ⟨W2, hW2⟩ : ∃ W2, W2 = (w.drewN nq).setCell ⟨g, 1, none⟩ (.int .i64 ((at_ : Int) + 1)) := ⟨_, rfl⟩
    rw [← hW2]
    have z0 : W2.cell? ⟨g, 0, none⟩ = some (.slice (some ad) L.length c) := by rw [hW2]; go_simp
    have z1 : W2.cell? ⟨g, 1, none⟩ = some (.int .i64 ((at_ : Int) + 1)) := by rw [hW2]; go_simp
    have z2 : W2.cell? (ad.add at_) = some (.int .u8 v) := by rw [hW2]; exact keep_cell ((keep_drewN (KeepBut.refl w g none) _).set_ _ _) hcx (by rw [show (ad.add at_).block = ad.block from by unfold Addr.add; split <;> rfl]; exact hadg)
    have HW : Aside0 (W2.heap[g]? = some (.cells #[.slice (some ad) L.length c, .int .i64 ((at_ : Int) + 1)] 60 (0, 0)) ∧ KeepBut w W2 g none ∧ ∀ (w0 : World), w0.heap.size ≤ g → Below w0.heap.size w0 w → Below w0.heap.size w0 W2) := ⟨by
      rw [hW2]; exact ⟨blk_put (blk_drewN HB.out _) 1 _ rfl, (keep_drewN (KeepBut.refl _ _ _) _).set_ _ _, fun w0 hg h => below_set (pw_below_drewN h _) hg⟩⟩
    clear hW2 HB c0 c1 f1 lg hcx hlx
    go_quiet (fail)
    go_wp2
    go_ret
    have hv := HV.out
    have ht : (wrap64 v).tmod 256 = v := by rw [show wrap64 v = v from by unfold wrap64; omega, Int.tmod_eq_emod_of_nonneg hv.1]; omega
    exact ⟨_, at_ + 1, rfl, by rw [ht]; exact hv.1, by rw [ht]; exact hv.2, by omega, fun _ => rfl, .inl (by have := HLT.out; omega), blk_drewN HW.out.1 _, keep_drewN HW.out.2.1 _, fun w0 hg h => pw_below_drewN (HW.out.2.2 w0 hg h) _⟩
theorem interleavescene_Problem_Formula.infoC : (Try.prog.info? 25).map (fun i => (i.zero, i.size, i.bytes)) = some (some (.slice none 0 0), 1, 24) := by kernel_rfl
def interleavescene_Problem_Formula.okA (n : Int) (d : S36) : Prop := (0 ≤ d.f0 ∧ d.f0 < n) ∧ (0 ≤ d.f1 ∧ d.f1 < n) ∧ d.f0 ≠ d.f1 ∧ (-4 ≤ d.f2 ∧ d.f2 ≤ 2)
def interleavescene_Problem_Formula.okC (c : List Int) : Prop := (1 ≤ c.length ∧ c.length ≤ 4) ∧ ∀ x ∈ c, x ≠ 0 ∧ -18 ≤ x ∧ x ≤ 18
structure interleavescene_Problem_Formula.St (w0 : World) (okA okC_ : Nat → Prop) (W : World) (s0 s1 s2 : Int) (A : Option Addr) (c nn : Nat) (L : List Int) (n m : Int) (at_ : Nat) (va vc : Value) (al : List S36) (cl : List (List Int)) : Prop where
  p : W.heap[w0.heap.size]? = some (.cells #[.int .u8 s0, .int .u8 s1, .int .u8 s2, .slice A nn c] 32 (0, 0))
  r : W.heap[w0.heap.size + 1]? = some (.cells #[.int .i64 0, .int .i64 0, .slice none 0 0, .slice none 0 0] 53 (0, 0))
  f : W.heap[w0.heap.size + 2]? = some (.cells #[.int .i64 n, .int .i64 m, va, vc] 53 (0, 0))
  t : W.heap[w0.heap.size + 3]? = some (.cells #[.slice A L.length c, .int .i64 (at_ : Int)] 60 (0, 0))
  ha : Kd.R k36 36 W w0.heap.size okA va al
  hc : Kd.R (Kd.slice 3 (Kd.int .i64)) 25 W w0.heap.size okC_ vc cl
  B : Below w0.heap.size w0 W
section
variable {okA okC_ : Nat → Prop} {w0 W W1 : World} {s0 s1 s2 : Int} {A : Option Addr} {c nn : Nat} {L : List Int} {n m : Int} {at_ : Nat} {va vc : Value} {al : List S36} {cl : List (List Int)}
theorem interleavescene_Problem_Formula.St.below (h : interleavescene_Problem_Formula.St w0 okA okC_ W s0 s1 s2 A c nn L n m at_ va vc al cl) (hb : Below W.heap.size W W1) : interleavescene_Problem_Formula.St w0 okA okC_ W1 s0 s1 s2 A c nn L n m at_ va vc al cl :=
  ⟨blk_below h.p hb, blk_below h.r hb, blk_below h.f hb, blk_below h.t hb, Kd.R_below h.ha hb, Kd.R_below h.hc hb, below_step h.B hb⟩
theorem interleavescene_Problem_Formula.St.alloc (h : interleavescene_Problem_Formula.St w0 okA okC_ W s0 s1 s2 A c nn L n m at_ va vc al cl) (o : Obj) : interleavescene_Problem_Formula.St w0 okA okC_ (W.alloc o) s0 s1 s2 A c nn L n m at_ va vc al cl := h.below (below_alloc (Below.refl _ _) o)
theorem interleavescene_Problem_Formula.St.drewN (h : interleavescene_Problem_Formula.St w0 okA okC_ W s0 s1 s2 A c nn L n m at_ va vc al cl) (q : Nat) : interleavescene_Problem_Formula.St w0 okA okC_ (W.drewN q) s0 s1 s2 A c nn L n m at_ va vc al cl := h.below (pw_below_drewN (Below.refl _ _) q)
theorem interleavescene_Problem_Formula.St.far (h : interleavescene_Problem_Formula.St w0 okA okC_ W s0 s1 s2 A c nn L n m at_ va vc al cl) {g t j : Nat} {cells : Array Value} (hb : W.heap[g]? = some (.cells cells t (0, 0))) (hg : w0.heap.size + 3 < g) (hok : ∀ k, okA k → k ≠ g) (ht : 25 ≠ t ∧ 3 ≠ t) (u : Value) : interleavescene_Problem_Formula.St w0 okA okC_ (W.setCell ⟨g, j, none⟩ u) s0 s1 s2 A c nn L n m at_ va vc al cl :=
  ⟨blk_far h.p (by show _ ≠ g; omega) u, blk_far h.r (by show _ ≠ g; omega) u, blk_far h.f (by show _ ≠ g; omega) u, blk_far h.t (by show _ ≠ g; omega) u,
    Kd.R_far (p := ⟨g, j, none⟩) h.ha hok u,
    Kd.R_set h.hc hb (fun q hq => by
      rcases List.mem_cons.1 hq with rfl | hq
      · exact ht.1
      · rcases List.mem_cons.1 hq with rfl | hq
        · exact ht.2
        · cases hq) j u, below_set h.B (by show w0.heap.size ≤ g; omega)⟩
theorem interleavescene_Problem_Formula.St.fresh (h : interleavescene_Problem_Formula.St w0 okA okC_ W s0 s1 s2 A c nn L n m at_ va vc al cl) : interleavescene_Problem_Formula.St w0 (fun k => k ≠ W.heap.size) okC_ W s0 s1 s2 A c nn L n m at_ va vc al cl :=
  ⟨h.p, h.r, h.f, h.t, Kd.R_mono (Kd.R_bound h.ha) (fun k hk => by have := hk.2.2.1; show k ≠ _; omega), h.hc, h.B⟩
theorem interleavescene_Problem_Formula.St.all (h : interleavescene_Problem_Formula.St w0 okA okC_ W s0 s1 s2 A c nn L n m at_ va vc al cl) : interleavescene_Problem_Formula.St w0 (fun _ => True) (fun _ => True) W s0 s1 s2 A c nn L n m at_ va vc al cl :=
  ⟨h.p, h.r, h.f, h.t, Kd.R_mono h.ha (fun _ _ => trivial), Kd.R_mono h.hc (fun _ _ => trivial), h.B⟩
theorem interleavescene_Problem_Formula.St.next (h : interleavescene_Problem_Formula.St w0 okA okC_ W s0 s1 s2 A c nn L n m at_ va vc al cl) {at' : Nat} (ht : W1.heap[w0.heap.size + 3]? = some (.cells #[.slice A L.length c, .int .i64 (at' : Int)] 60 (0, 0))) (hk : KeepBut W W1 (w0.heap.size + 3) none) (hB : Below w0.heap.size w0 W1) : interleavescene_Problem_Formula.St w0 okA okC_ W1 s0 s1 s2 A c nn L n m at' va vc al cl :=
  ⟨hk.blk h.p (by omega) (by simp), hk.blk h.r (by omega) (by simp), hk.blk h.f (by omega) (by simp), ht,
    Kd.R_mono (Kd.R_keep (Kd.R_types h.ha h.t (fun q hq => by
      rcases List.mem_cons.1 hq with rfl | hq
      · decide
      · cases hq)) hk (fun k hk => hk.2)) (fun _ hk => hk.1),
    Kd.R_mono (Kd.R_keep (Kd.R_types h.hc h.t (fun q hq => by
      rcases List.mem_cons.1 hq with rfl | hq
      · decide
      · rcases List.mem_cons.1 hq with rfl | hq
        · decide
        · cases hq)) hk (fun k hk => hk.2)) (fun _ hk => hk.1), hB⟩
theorem interleavescene_Problem_Formula.St.setm (h : interleavescene_Problem_Formula.St w0 okA okC_ W s0 s1 s2 A c nn L n m at_ va vc al cl) (m' : Int) : interleavescene_Problem_Formula.St w0 okA okC_ (W.setCell ⟨w0.heap.size + 2, 1, none⟩ (.int .i64 m')) s0 s1 s2 A c nn L n m' at_ va vc al cl :=
  ⟨blk_far h.p (by show _ ≠ w0.heap.size + 2; omega) _, blk_far h.r (by show _ ≠ w0.heap.size + 2; omega) _, blk_put h.f 1 _ rfl, blk_far h.t (by show _ ≠ w0.heap.size + 2; omega) _,
    Kd.R_set h.ha h.f (fun q hq => by
      rcases List.mem_cons.1 hq with rfl | hq
      · decide
      · cases hq) 1 _,
    Kd.R_set h.hc h.f (fun q hq => by
      rcases List.mem_cons.1 hq with rfl | hq
      · decide
      · rcases List.mem_cons.1 hq with rfl | hq
        · decide
        · cases hq) 1 _, below_set h.B (by show w0.heap.size ≤ w0.heap.size + 2; omega)⟩
theorem interleavescene_Problem_Formula.St.seta (h : interleavescene_Problem_Formula.St w0 okA okC_ W s0 s1 s2 A c nn L n m at_ va vc al cl) {W1 : World} {v1 : Value} {al1 : List S36} (ha : Kd.R k36 36 W1 w0.heap.size (fun _ => True) v1 al1) (hg : W.grownBy W1 va.ownBlock) (hB : Below w0.heap.size w0 W1) :
    interleavescene_Problem_Formula.St w0 (fun _ => True) okC_ (W1.setCell ⟨w0.heap.size + 2, 2, none⟩ v1) s0 s1 s2 A c nn L n m at_ v1 vc al1 cl := by
  have hp := blk_grown h.p hg (Kd.R_ne h.ha h.p (by decide))
  have hr := blk_grown h.r hg (Kd.R_ne h.ha h.r (by decide))
  have hf := blk_grown h.f hg (Kd.R_ne h.ha h.f (by decide))
  have ht := blk_grown h.t hg (Kd.R_ne h.ha h.t (by decide))
  have hc := Kd.R_over h.hc h.ha (fun q hq => by
      rcases List.mem_cons.1 hq with rfl | hq
      · decide
      · rcases List.mem_cons.1 hq with rfl | hq
        · decide
        · cases hq) hg
  exact ⟨blk_far hp (by show _ ≠ w0.heap.size + 2; omega) _, blk_far hr (by show _ ≠ w0.heap.size + 2; omega) _, blk_put hf 2 _ rfl, blk_far ht (by show _ ≠ w0.heap.size + 2; omega) _,
    Kd.R_set ha hf (fun q hq => by
      rcases List.mem_cons.1 hq with rfl | hq
      · decide
      · cases hq) 2 _,
    Kd.R_set hc hf (fun q hq => by
      rcases List.mem_cons.1 hq with rfl | hq
      · decide
      · rcases List.mem_cons.1 hq with rfl | hq
        · decide
        · cases hq) 2 _, below_set hB (by show w0.heap.size ≤ w0.heap.size + 2; omega)⟩
theorem interleavescene_Problem_Formula.St.setc (h : interleavescene_Problem_Formula.St w0 okA okC_ W s0 s1 s2 A c nn L n m at_ va vc al cl) {W1 : World} {v1 : Value} {cl1 : List (List Int)} (hc : Kd.R (Kd.slice 3 (Kd.int .i64)) 25 W1 w0.heap.size (fun _ => True) v1 cl1) (hg : W.grownBy W1 vc.ownBlock) (hB : Below w0.heap.size w0 W1) :
    interleavescene_Problem_Formula.St w0 okA (fun _ => True) (W1.setCell ⟨w0.heap.size + 2, 3, none⟩ v1) s0 s1 s2 A c nn L n m at_ va v1 al cl1 := by
  have hp := blk_grown h.p hg (Kd.R_ne h.hc h.p (by decide))
  have hr := blk_grown h.r hg (Kd.R_ne h.hc h.r (by decide))
  have hf := blk_grown h.f hg (Kd.R_ne h.hc h.f (by decide))
  have ht := blk_grown h.t hg (Kd.R_ne h.hc h.t (by decide))
  have ha := Kd.R_over h.ha h.hc (fun q hq => by
      rcases List.mem_cons.1 hq with rfl | hq
      · decide
      · cases hq) hg
  exact ⟨blk_far hp (by show _ ≠ w0.heap.size + 2; omega) _, blk_far hr (by show _ ≠ w0.heap.size + 2; omega) _, blk_put hf 3 _ rfl, blk_far ht (by show _ ≠ w0.heap.size + 2; omega) _,
    Kd.R_set ha hf (fun q hq => by
      rcases List.mem_cons.1 hq with rfl | hq
      · decide
      · cases hq) 3 _,
    Kd.R_set hc hf (fun q hq => by
      rcases List.mem_cons.1 hq with rfl | hq
      · decide
      · rcases List.mem_cons.1 hq with rfl | hq
        · decide
        · cases hq) 3 _, below_set hB (by show w0.heap.size ≤ w0.heap.size + 2; omega)⟩
end
theorem interleavescene_Problem_Formula.yof (n X y : Int) (hn : 2 ≤ n ∧ n ≤ 6) (hX : 0 ≤ X ∧ X < n) (hy : 0 ≤ y) : (0 ≤ (wrap64 (X + 1 + y.tmod (n - 1))).tmod n ∧ (wrap64 (X + 1 + y.tmod (n - 1))).tmod n < n) ∧ X ≠ (wrap64 (X + 1 + y.tmod (n - 1))).tmod n := by
  have h1 : y.tmod (n - 1) = y % (n - 1) := Int.tmod_eq_emod_of_nonneg hy
  have h2 := Int.emod_nonneg y (show n - 1 ≠ 0 by omega)
  have h3 := Int.emod_lt_of_pos y (show 0 < n - 1 by omega)
  rw [h1]
  obtain ⟨q, hq⟩ : ∃ q, q = y % (n - 1) := ⟨_, rfl⟩
  rw [← hq] at h2 h3 ⊢
  have h4 : wrap64 (X + 1 + q) = X + 1 + q := by unfold wrap64; omega
  rw [h4, Int.tmod_eq_emod_of_nonneg (by omega)]
  have : n = 2 ∨ n = 3 ∨ n = 4 ∨ n = 5 ∨ n = 6 := by omega
  rcases this with rfl | rfl | rfl | rfl | rfl <;> omega
theorem interleavescene_Problem_Formula.St.grow {okA okC_ : Nat → Prop} {w0 W W1 : World} {s0 s1 s2 : Int} {A : Option Addr} {c nn : Nat} {L : List Int} {n m : Int} {at_ : Nat} {va vc : Value} {al : List S36} {cl : List (List Int)} (h : interleavescene_Problem_Formula.St w0 okA okC_ W s0 s1 s2 A c nn L n m at_ va vc al cl) {b : Nat} {ok : Nat → Prop} {v8 : Value} {c8 : List Int}
    (hv : Kd.R (Kd.int .i64) 3 W b ok v8 c8) (hg : W.grownBy W1 v8.ownBlock) (hB : Below w0.heap.size w0 W1) (hne : ∀ k, okC_ k → some k ≠ v8.ownBlock) : interleavescene_Problem_Formula.St w0 okA okC_ W1 s0 s1 s2 A c nn L n m at_ va vc al cl :=
  ⟨blk_grown h.p hg (Kd.R_ne hv h.p (by decide)), blk_grown h.r hg (Kd.R_ne hv h.r (by decide)), blk_grown h.f hg (Kd.R_ne hv h.f (by decide)), blk_grown h.t hg (Kd.R_ne hv h.t (by decide)),
    Kd.R_over h.ha hv (fun q hq => by
      rcases List.mem_cons.1 hq with rfl | hq
      · decide
      · cases hq) hg, Kd.R_grown h.hc hg hne, hB⟩
theorem interleavescene_Problem_Formula.St.freshC {okA okC_ : Nat → Prop} {w0 W : World} {s0 s1 s2 : Int} {A : Option Addr} {c nn : Nat} {L : List Int} {n m : Int} {at_ : Nat} {va vc : Value} {al : List S36} {cl : List (List Int)} (h : interleavescene_Problem_Formula.St w0 okA okC_ W s0 s1 s2 A c nn L n m at_ va vc al cl) : interleavescene_Problem_Formula.St w0 okA (fun k => k < W.heap.size) W s0 s1 s2 A c nn L n m at_ va vc al cl :=
  ⟨h.p, h.r, h.f, h.t, h.ha, Kd.R_mono (Kd.R_bound h.hc) (fun k hk => hk.2.2.1), h.B⟩
def interleavescene_Problem_Formula.atOf (g : Nat) (W : World) : Nat := match W.cell? ⟨g, 1, none⟩ with
  | some (.int _ k) => k.toNat
  | _ => 0
theorem interleavescene_Problem_Formula.atOf_eq {g : Nat} {W : World} {k : Nat} {kk : IntKind} (h : W.cell? ⟨g, 1, none⟩ = some (.int kk (k : Int))) : interleavescene_Problem_Formula.atOf g W = k := by
  unfold interleavescene_Problem_Formula.atOf; rw [h]; simp
def interleavescene_Problem_Formula.Fin (w0 W : World) (va vc : Value) (al : List S36) (cl : List (List Int)) : Prop :=
  Kd.R k36 36 W w0.heap.size (fun _ => True) va al ∧ Kd.R (Kd.slice 3 (Kd.int .i64)) 25 W w0.heap.size (fun _ => True) vc cl ∧ Below w0.heap.size w0 W ∧ ∃ cells, W.heap[w0.heap.size + 1]? = some (.cells cells 53 (0, 0))
theorem interleavescene_Problem_Formula.Fin.set {w0 W : World} {va vc : Value} {al : List S36} {cl : List (List Int)} (h : interleavescene_Problem_Formula.Fin w0 W va vc al cl) (j : Nat) (u : Value) : interleavescene_Problem_Formula.Fin w0 (W.setCell ⟨w0.heap.size + 1, j, none⟩ u) va vc al cl := by
  obtain ⟨h1, h2, h3, cells, h4⟩ := h
  exact ⟨Kd.R_set h1 h4 (fun q hq => by
      rcases List.mem_cons.1 hq with rfl | hq
      · decide
      · cases hq) j u,
    Kd.R_set h2 h4 (fun q hq => by
      rcases List.mem_cons.1 hq with rfl | hq
      · decide
      · rcases List.mem_cons.1 hq with rfl | hq
        · decide
        · cases hq) j u, below_set h3 (by show w0.heap.size ≤ w0.heap.size + 1; omega), _, blk_set h4 j u⟩
theorem interleavescene_Problem_Formula.Fin.drewN {w0 W : World} {va vc : Value} {al : List S36} {cl : List (List Int)} (h : interleavescene_Problem_Formula.Fin w0 W va vc al cl) (k : Nat) : interleavescene_Problem_Formula.Fin w0 (W.drewN k) va vc al cl := by
  obtain ⟨h1, h2, h3, cells, h4⟩ := h
  exact ⟨Kd.R_drewN h1 k, Kd.R_drewN h2 k, pw_below_drewN h3 k, _, blk_drewN h4 k⟩
theorem interleavescene_Problem_Formula.St.init (w : World) (s0 s1 s2 : Int) (A : Option Addr) (c nn : Nat) (L : List Int) (n : Int) : interleavescene_Problem_Formula.St w (fun _ => True) (fun _ => True) ((((w.alloc (Obj.cells #[.int .u8 s0, .int .u8 s1, .int .u8 s2, .slice A nn c] 32)).alloc (Obj.cells #[.int .i64 0, .int .i64 0, .slice none 0 0, .slice none 0 0] 53)).alloc (Obj.cells #[.int .i64 n, .int .i64 0, .slice none 0 0, .slice none 0 0] 53)).alloc (Obj.cells #[.slice A L.length c, .int .i64 0] 60)) s0 s1 s2 A c nn L n 0 0 (.slice none 0 0) (.slice none 0 0) [] [] := by
  refine ⟨?_, ?_, ?_, ?_, Kd.R_nil _ _ _ _ _, Kd.R_nil _ _ _ _ _, below_alloc (below_alloc (below_alloc (below_alloc (Below.refl _ _) _) _) _) _⟩
  · exact blk_alloc (blk_alloc (blk_alloc (blk_new _ _) _) _) _
  · have h := blk_new (w.alloc (Obj.cells #[.int .u8 s0, .int .u8 s1, .int .u8 s2, .slice A nn c] 32)) (Obj.cells #[.int .i64 0, .int .i64 0, .slice none 0 0, .slice none 0 0] 53)
    exact blk_alloc (blk_alloc (by simpa using h) _) _
  · have h := blk_new ((w.alloc (Obj.cells #[.int .u8 s0, .int .u8 s1, .int .u8 s2, .slice A nn c] 32)).alloc (Obj.cells #[.int .i64 0, .int .i64 0, .slice none 0 0, .slice none 0 0] 53)) (Obj.cells #[.int .i64 n, .int .i64 0, .slice none 0 0, .slice none 0 0] 53)
    exact blk_alloc (by simpa using h) _
  · have h := blk_new (((w.alloc (Obj.cells #[.int .u8 s0, .int .u8 s1, .int .u8 s2, .slice A nn c] 32)).alloc (Obj.cells #[.int .i64 0, .int .i64 0, .slice none 0 0, .slice none 0 0] 53)).alloc (Obj.cells #[.int .i64 n, .int .i64 0, .slice none 0 0, .slice none 0 0] 53)) (Obj.cells #[.slice A L.length c, .int .i64 0] 60)
    simpa using h
set_option maxHeartbeats 8000000 in
set_option maxRecDepth 100000 in
theorem interleavescene_Problem_Formula.calls (w : World) (s0 s1 s2 : Int) (A : Option Addr) (c : Nat) (L0 : List Int) (hr : Kd.C (Kd.int .u8) w A L0.length L0) (hc : L0.length ≤ c) (h0 : 0 ≤ s0 ∧ s0 ≤ 255) (h1 : 0 ≤ s1 ∧ s1 ≤ 255) (h2 : 0 ≤ s2 ∧ s2 ≤ 255) (hu : ∀ x ∈ L0, 0 ≤ x ∧ x ≤ 255) :
    Calls Try.prog 27 #[.agg #[.int .u8 s0, .int .u8 s1, .int .u8 s2, .slice A L0.length c]] w fun e w' => ∃ (n m : Int) (va vc : Value) (al : List S36) (cl : List (List Int)), e = .returned (.agg #[.int .i64 n, .int .i64 m, va, vc]) ∧
      Kd.R k36 36 w' w.heap.size (fun _ => True) va al ∧ Kd.R (Kd.slice 3 (Kd.int .i64)) 25 w' w.heap.size (fun _ => True) vc cl ∧ (2 ≤ n ∧ n ≤ 6) ∧ (1 ≤ al.length ∧ al.length ≤ 12) ∧ (∀ d ∈ al, interleavescene_Problem_Formula.okA n d) ∧ cl.length ≤ 40 ∧ (∀ x ∈ cl, interleavescene_Problem_Formula.okC x) ∧ Below w.heap.size w w' := by
  have hu32 := Try.underlying32
  have HR := Aside0.mk hr
  have HU := Aside0.mk hu
  have hw0 : wrap64 s0 = s0 := by unfold wrap64; omega
  have hw1 : wrap64 s1 = s1 := by unfold wrap64; omega
  have hw2 : wrap64 s2 = s2 := by unfold wrap64; omega
  have HB := Aside0.mk (Below.refl w.heap.size w)
  have hll : L0.length ≤ 9223372036854775807 := hr.2.1
  clear hr hu
  go_enter Try.func27, Try.ntmps27
  go_wp2
  all_goals
    obtain ⟨L, hL⟩ : ∃ L, L = L0.take 300 := ⟨_, rfl⟩
    obtain ⟨W4, hW4⟩ : ∃ W4, W4 = ((((w.alloc (Obj.cells #[.int .u8 s0, .int .u8 s1, .int .u8 s2, .slice A L0.length c] 32)).alloc (Obj.cells #[.int .i64 0, .int .i64 0, .slice none 0 0, .slice none 0 0] 53)).alloc (Obj.cells #[.int .i64 (2 + s0 % 5), .int .i64 0, .slice none 0 0, .slice none 0 0] 53)).alloc (Obj.cells #[.slice A L.length c, .int .i64 0] 60)) := ⟨_, rfl⟩
    have hSt := interleavescene_Problem_Formula.St.init w s0 s1 s2 A c L0.length L (2 + s0 % 5)
    rw [← hW4] at hSt
    have HLL : Aside0 (L.length ≤ 300 ∧ Kd.C (Kd.int .u8) w A L.length L ∧ ∀ x ∈ L, 0 ≤ x ∧ x ≤ 255) := ⟨by
      rw [hL]
      refine ⟨by simp; omega, ?_, fun x hx => HU.out x (List.mem_of_mem_take hx)⟩
      rcases Nat.le_total L0.length 300 with h | h
      · rw [List.take_of_length_le h]; exact HR.out
      · exact Kd.C_take HR.out h⟩
    first
    | (have hm1 : L.length = L0.length := by rw [hL]; simp; omega
       rw [hm1] at hW4; rw [← hW4])
    | (have hm1 : L.length = 300 := by rw [hL]; simp; omega
       rw [hm1] at hW4; rw [← hW4])
    have HSt := Aside0.mk hSt
    clear hSt hW4 hm1 hL HU HR
    have hn2 : 2 ≤ 2 + s0 % 5 ∧ 2 + s0 % 5 ≤ 6 := by omega
    obtain ⟨n, hn⟩ : ∃ n, n = 2 + s0 % 5 := ⟨_, rfl⟩
    rw [← hn] at hn2 HSt
    clear hn
    go_loopw [5] (fun v wr => ∃ (i at_ : Nat) (va : Value) (al : List S36), v = .int .i64 (i : Int) ∧ (i : Int) ≤ 1 + s1 % 12 ∧ Aside0 (al.length = i ∧ ∀ d ∈ al, interleavescene_Problem_Formula.okA n d) ∧ Aside0 (interleavescene_Problem_Formula.St w (fun _ => True) (fun _ => True) wr s0 s1 s2 A c L0.length L n 0 at_ va (.slice none 0 0) al [])) (fun v _ => 13 - (intOf v).toNat)
    case atStart => exact ⟨0, 0, _, _, rfl, by omega, ⟨rfl, fun d hd => by cases hd⟩, HSt⟩
    case round =>
      clear HSt
      obtain ⟨i, at_, va, al, rfl, hi, HAL, HSt⟩ := hrel
      have hp1 : wr.cell? ⟨w.heap.size, 1, none⟩ = some (.int .u8 s1) := (blk_cell HSt.out.p 1).trans rfl
      have hf0 : wr.cell? ⟨w.heap.size + 1 + 1, 0, none⟩ = some (.int .i64 n) := (blk_cell HSt.out.f 0).trans rfl
      by_cases hlt : (i : Int) < 1 + s1 % 12
      · have hlt' := eq_true hlt
        go_wp2_with fail
        refine (interleavescene_Problem_Formula.next wr (w.heap.size + 3) A c L at_ HSt.out.t (Kd.C_below HLL.out.2.1 HSt.out.B) (fun ad hA hpos => by
          have := Kd.C_lt (hA ▸ HLL.out.2.1) hpos (by decide)
          omega) HLL.out.2.2 HLL.out.1).mono ?_
        rintro e w1 ⟨x, at1, rfl, hx0, hx1, _, _, _, ht1, hk1, hb1⟩
        have HSt1 := Aside0.mk (HSt.out.next ht1 hk1 (hb1 w (by omega) HSt.out.B))
        clear ht1 hk1 hb1 HSt
        have hf0 : w1.cell? ⟨w.heap.size + 1 + 1, 0, none⟩ = some (.int .i64 n) := (blk_cell HSt1.out.f 0).trans rfl
        have hn0 : (n = 0) = False := eq_false (by omega)
        have hq : 0 ≤ x.tmod n ∧ x.tmod n < n := by
          rw [Int.tmod_eq_emod_of_nonneg hx0]; exact ⟨Int.emod_nonneg _ (by omega), Int.emod_lt_of_pos _ (by omega)⟩
        go_wp2_with fail
        obtain ⟨b, hb⟩ : ∃ b, b = w1.heap.size := ⟨_, rfl⟩
        obtain ⟨X, hX⟩ : ∃ X, X = x % n := ⟨_, rfl⟩
        obtain ⟨C, hC⟩ : ∃ C, C = x / 16 % 7 - 4 := ⟨_, rfl⟩
        have hX2 : 0 ≤ X ∧ X < n := by rw [hX]; exact ⟨Int.emod_nonneg _ (by omega), Int.emod_lt_of_pos _ (by omega)⟩
        have hC2 : -4 ≤ C ∧ C ≤ 2 := by omega
        rw [← hX, ← hC, ← hb]
        obtain ⟨W2, hW2⟩ : ∃ W2, W2 = w1.alloc (Obj.cells #[.int .i64 X, .int .i64 0, .int .i64 C] 36) := ⟨_, rfl⟩
        rw [← hW2]
        have HS2 : Aside0 (∃ at_, interleavescene_Problem_Formula.St w (fun k => k ≠ b) (fun _ => True) W2 s0 s1 s2 A c L0.length L n 0 at_ va (.slice none 0 0) al []) := ⟨at1, by rw [hW2, hb]; exact HSt1.out.fresh.alloc _⟩
        have HBK : Aside0 (W2.heap[b]? = some (.cells #[.int .i64 X, .int .i64 0, .int .i64 C] 36 (0, 0))) := ⟨by rw [hW2, hb]; exact blk_new _ _⟩
        have z0 : W2.cell? ⟨b, 0, none⟩ = some (.int .i64 X) := (blk_cell HBK.out 0).trans rfl
        have z1 : W2.cell? ⟨w.heap.size + 1 + 1, 0, none⟩ = some (.int .i64 n) := by rw [hW2]; exact (blk_cell (HSt1.out.alloc _).f 0).trans rfl
        have HBN : Aside0 (b ≠ w.heap.size + 3 ∧ w.heap.size + 3 < b) := ⟨by have := blk_lt HSt1.out.t; omega⟩
        have HNE : Aside0 (∀ ad, A = some ad → 0 < L.length → ad.block ≠ w.heap.size + 3) := ⟨fun ad hA hpos => by
          have := Kd.C_lt (hA ▸ HLL.out.2.1) hpos (by decide)
          omega⟩
        have hn1 : (n - 1 = 0) = False := eq_false (by omega)
        have hwn : wrap64 (n - 1) = n - 1 := by unfold wrap64; omega
        have hwx : wrap64 (X + 1) = X + 1 := by unfold wrap64; omega
        clear hW2 hb hX hC HSt1 hp1 hf0 hq hx0 hx1 HB
        refine start_ (n := 15) (S := fun w' => w'.cell? ⟨b, 0, none⟩ = some (.int .i64 X) ∧ w'.cell? ⟨w.heap.size + 1 + 1, 0, none⟩ = some (.int .i64 n) ∧ Aside0 (∃ at_, interleavescene_Problem_Formula.St w (fun k => k ≠ b) (fun _ => True) w' s0 s1 s2 A c L0.length L n 0 at_ va (.slice none 0 0) al []) ∧ Aside0 (w'.heap[b]? = some (.cells #[.int .i64 X, .int .i64 0, .int .i64 C] 36 (0, 0)))) (ds := [14]) #[false, false, false, false, false, false, false, false, false, false, false, false, false, false, false] (by kernel_rfl) rfl rfl ⟨z0, z1, Aside0.mk (HS2.out.elim fun a h => ⟨a, h.below (below_drew (Below.refl _ _))⟩), Aside0.mk (blk_drew HBK.out)⟩ (fun hHeld => ?_)
        refine pure_ (i := 0) (N := some 49) (v := ?_) (a' := ?_) #[true, false, false, false, false, false, false, false, false, false, false, false, false, false, false] rfl rfl (by kernel_rfl) (fun _ _ _ h => h) (Or.inl ⟨by rfl, ?_⟩) ?_ ?_
        rotate_left
        · intro w'
          go_simp
          with_reducible rfl
        rotate_left
        · simp only [Act.put, List.setIfInBounds_toArray, List.set_cons_zero, List.set_cons_succ, i64_w, i32_w]
          rfl
        refine pure_ (i := 3) (N := some 52) (v := ?_) (a' := ?_) #[true, false, false, true, false, false, false, false, false, false, false, false, false, false, false] rfl rfl (by kernel_rfl) (fun _ _ _ h => h) (Or.inl ⟨by rfl, ?_⟩) ?_ ?_
        rotate_left
        · intro w'
          go_simp
          with_reducible rfl
        rotate_left
        · simp only [Act.put, List.setIfInBounds_toArray, List.set_cons_zero, List.set_cons_succ, i64_w, i32_w]
          rfl
        refine pure_ (i := 5) (N := some 54) (v := ?_) (a' := ?_) #[true, false, false, true, false, true, false, false, false, false, false, false, false, false, false] rfl rfl (by kernel_rfl) (fun _ _ _ h => h) (Or.inl ⟨by rfl, ?_⟩) ?_ ?_
        rotate_left
        · intro w'
          go_simp
          with_reducible rfl
        rotate_left
        · simp only [Act.put, List.setIfInBounds_toArray, List.set_cons_zero, List.set_cons_succ, i64_w, i32_w]
          rfl
        refine pure_ (i := 10) (N := some 59) (v := ?_) (a' := ?_) #[true, false, false, true, false, true, false, false, false, false, true, false, false, false, false] rfl rfl (by kernel_rfl) (fun _ _ _ h => h) (Or.inl ⟨by rfl, ?_⟩) ?_ ?_
        rotate_left
        · intro w'
          go_simp
          with_reducible rfl
        rotate_left
        · simp only [Act.put, List.setIfInBounds_toArray, List.set_cons_zero, List.set_cons_succ, i64_w, i32_w]
          rfl
        refine take_ (i := 1) (N := some 50) (v := ?_) (a' := ?_) #[true, true, false, true, false, true, false, false, false, false, true, false, false, false, false] rfl rfl (by kernel_rfl) (fun _ _ _ h => h) (Or.inl ⟨by rfl, ?_⟩) hHeld ?_ ?_
        rotate_left
        · rintro w' ⟨s0, s1, s2, s3⟩
          go_simp
          with_reducible rfl
        rotate_left
        · simp only [Act.put, List.setIfInBounds_toArray, List.set_cons_zero, List.set_cons_succ, i64_w, i32_w]
          rfl
        refine pure_ (i := 2) (N := some 51) (v := ?_) (a' := ?_) #[true, true, true, true, false, true, false, false, false, false, true, false, false, false, false] rfl rfl (by kernel_rfl) (fun _ _ _ h => h) (Or.inl ⟨by rfl, ?_⟩) ?_ ?_
        rotate_left
        · intro w'
          go_simp
          with_reducible rfl
        rotate_left
        · simp only [Act.put, List.setIfInBounds_toArray, List.set_cons_zero, List.set_cons_succ, i64_w, i32_w]
          rfl
        refine take_ (i := 6) (N := some 55) (v := ?_) (a' := ?_) #[true, true, true, true, false, true, true, false, false, false, true, false, false, false, false] rfl rfl (by kernel_rfl) (fun _ _ _ h => h) (Or.inl ⟨by rfl, ?_⟩) hHeld ?_ ?_
        rotate_left
        · rintro w' ⟨s0, s1, s2, s3⟩
          go_simp
          with_reducible rfl
        rotate_left
        · simp only [Act.put, List.setIfInBounds_toArray, List.set_cons_zero, List.set_cons_succ, i64_w, i32_w]
          rfl
        refine pure_ (i := 7) (N := some 56) (v := ?_) (a' := ?_) #[true, true, true, true, false, true, true, true, false, false, true, false, false, false, false] rfl rfl (by kernel_rfl) (fun _ _ _ h => h) (Or.inl ⟨by rfl, ?_⟩) ?_ ?_
        rotate_left
        · intro w'
          go_simp
          with_reducible rfl
        rotate_left
        · simp only [Act.put, List.setIfInBounds_toArray, List.set_cons_zero, List.set_cons_succ, i64_w, i32_w]
          rfl
        refine take_ (i := 11) (N := some 60) (v := ?_) (a' := ?_) #[true, true, true, true, false, true, true, true, false, false, true, true, false, false, false] rfl rfl (by kernel_rfl) (fun _ _ _ h => h) (Or.inl ⟨by rfl, ?_⟩) hHeld ?_ ?_
        rotate_left
        · rintro w' ⟨s0, s1, s2, s3⟩
          go_simp
          with_reducible rfl
        rotate_left
        · simp only [Act.put, List.setIfInBounds_toArray, List.set_cons_zero, List.set_cons_succ, i64_w, i32_w]
          rfl
        refine one_ (i := 4) (N := some 53) #[true, true, true, true, true, true, true, true, false, false, true, true, false, false, false] rfl rfl (by kernel_rfl) (by decide) (fun K hK => ?_)
        obtain ⟨t0, t1, t2, t3⟩ := hHeld
        obtain ⟨at1_, hs1⟩ := t2.out
        refine goes_ Try.func31 (by kernel_rfl) rfl #[.pointer (some ⟨w.heap.size + 1 + 1 + 1, 0, none⟩), .int .i64 256] (by rfl) rfl rfl (by simp only [List.map_toArray, List.map_cons, List.map_nil]; rfl) ?_
        with_reducible refine (interleavescene_Problem_Formula.next _ (w.heap.size + 3) A c L at1_ hs1.t (Kd.C_below HLL.out.2.1 hs1.B) HNE.out HLL.out.2.2 HLL.out.1).mono ?_
        rintro e w3 ⟨y, at2, rfl, hy0, hy1, _, _, _, ht2, hk2, hb2⟩
        refine ⟨_, rfl, ?_⟩
        refine hK.out _ _ ⟨keep_cell hk2 t0 HBN.out.1, keep_cell hk2 t1 (by show w.heap.size + 1 + 1 ≠ w.heap.size + 3; omega), (Aside0.mk ⟨_, hs1.next ht2 hk2 (hb2 w (by omega) hs1.B)⟩), ⟨hk2.blk t3.out HBN.out.1 (by simp)⟩⟩ (fun hHeld => ?_)
        clear hK K
        refine norm_ (a' := ?_) ?_ ?_
        rotate_left
        · show Act.put _ (some 53) _ = _
          simp only [Act.put, List.setIfInBounds_toArray, List.set_cons_zero, List.set_cons_succ, i64_w, i32_w]
          rfl
        refine pure_ (i := 8) (N := some 57) (v := ?_) (a' := ?_) #[true, true, true, true, true, true, true, true, true, false, true, true, false, false, false] rfl rfl (by kernel_rfl) (fun _ _ _ h => h) (Or.inl ⟨by rfl, ?_⟩) ?_ ?_
        rotate_left
        · intro w'
          go_simp
          with_reducible rfl
        rotate_left
        · simp only [Act.put, List.setIfInBounds_toArray, List.set_cons_zero, List.set_cons_succ, i64_w, i32_w]
          rfl
        refine pure_ (i := 9) (N := some 58) (v := ?_) (a' := ?_) #[true, true, true, true, true, true, true, true, true, true, true, true, false, false, false] rfl rfl (by kernel_rfl) (fun _ _ _ h => h) (Or.inl ⟨by rfl, ?_⟩) ?_ ?_
        rotate_left
        · intro w'
          go_simp
          with_reducible rfl
        rotate_left
        · simp only [Act.put, List.setIfInBounds_toArray, List.set_cons_zero, List.set_cons_succ, i64_w, i32_w]
          rfl
        refine pure_ (i := 12) (N := some 61) (v := ?_) (a' := ?_) #[true, true, true, true, true, true, true, true, true, true, true, true, true, false, false] rfl rfl (by kernel_rfl) (fun _ _ _ h => h) (Or.inl ⟨by rfl, ?_⟩) ?_ ?_
        rotate_left
        · intro w'
          go_simp
          with_reducible rfl
        rotate_left
        · simp only [Act.put, List.setIfInBounds_toArray, List.set_cons_zero, List.set_cons_succ, i64_w, i32_w]
          rfl
        refine pure_ (i := 13) (N := some 62) (v := ?_) (a' := ?_) #[true, true, true, true, true, true, true, true, true, true, true, true, true, true, false] rfl rfl (by kernel_rfl) (fun _ _ _ h => h) (Or.inl ⟨by rfl, ?_⟩) ?_ ?_
        rotate_left
        · intro w'
          go_simp
          with_reducible rfl
        rotate_left
        · simp only [Act.put, List.setIfInBounds_toArray, List.set_cons_zero, List.set_cons_succ, i64_w, i32_w]
          rfl
        refine last_ (i := 14) (N := none) #[true, true, true, true, true, true, true, true, true, true, true, true, true, true, true] rfl rfl (by kernel_rfl) (by decide) (fun K hK => ?_)
        obtain ⟨t0, t1, t2, t3⟩ := hHeld
        have tc1 : World.cell? _ ⟨b, 1, none⟩ = some (.int .i64 0) := (blk_cell t3.out 1).trans rfl
        have tf1 := blk_frozen t3.out 1
        refine skip_ (w1 := ?_) (by rfl) rfl ?_ ?_
        rotate_left
        · go_simp
          rfl
        refine hK.out _ _ ?_
        clear hK K
        refine done_ (by kernel_rfl) ?_

        obtain ⟨at3, hs3⟩ := t2.out
        have hY := interleavescene_Problem_Formula.yof n X y hn2 hX2 hy0
        obtain ⟨Y, hY0⟩ : ∃ Y, Y = (wrap64 (X + 1 + y.tmod (n - 1))).tmod n := ⟨_, rfl⟩
        rw [← hY0] at hY ⊢
        clear hY0 hs1 ht2 hk2 hb2 tc1 tf1 t0 t1 t2 hwn hwx hn1 hn0
        have HSt3 := Aside0.mk (hs3.far (j := 1) t3.out HBN.out.2 (fun k hk => hk) (by decide) (.int .i64 Y)).all
        have HD : Aside0 ((w3.setCell ⟨b, 1, none⟩ (.int .i64 Y)).heap[b]? = some (.cells #[.int .i64 X, .int .i64 Y, .int .i64 C] 36 (0, 0))) := ⟨blk_put t3.out 1 _ rfl⟩
        clear hs3 t3
        obtain ⟨W5, hW5⟩ : ∃ W5, W5 = w3.setCell ⟨b, 1, none⟩ (.int .i64 Y) := ⟨_, rfl⟩
        rw [← hW5] at HSt3 HD ⊢
        clear hW5 HS2 HBK z0 z1 HNE HBN
        have z0 : W5.cell? ⟨b, 0, none⟩ = some (.int .i64 X) := (blk_cell HD.out 0).trans rfl
        have z1 : W5.cell? ⟨b, 1, none⟩ = some (.int .i64 Y) := (blk_cell HD.out 1).trans rfl
        have z2 : W5.cell? ⟨b, 2, none⟩ = some (.int .i64 C) := (blk_cell HD.out 2).trans rfl
        have z3 : W5.cell? ⟨w.heap.size + 1 + 1, 2, none⟩ = some va := (blk_cell HSt3.out.f 2).trans rfl
        have hall := HAL.out.1
        have hal12 : al.length ≤ 11 := by omega
        go_wp2_with (first | ((with_reducible refine gate_builtin (b := .append) (xs := #[.tmp 64, .tmp 66]) rfl ?_); at_builtin; refine Kd.R_append k36 (w0 := w) w.heap.size rfl (.tmp 64) (.tmp 66) 22 36 (.agg #[(.int .i64 0), (.int .i64 0), (.int .i64 0)]) 24 rfl Try.underlying22 info36 rfl (by decide) (by omega) va al ⟨X, Y, C⟩ [.int .i64 X, .int .i64 Y, .int .i64 C] (fun _ => True) (fun _ => False) rfl rfl ?aP (fun _ hk => hk.elim) (fun _ _ => trivial) ?aO ?aB ?aS ?aL ?_; (case aP => exact k36_mkM _ _ _ (⟨X, Y, C⟩ : S36)); (case aO => exact HSt3.out.ha); (case aB => exact HSt3.out.B); (case aS => exact HSt3.out.B.size); (case aL => omega); intro v1 w6 ho hb6 hg6 hat6; obtain ⟨A6, c6, e6⟩ := Kd.R_slice ho; obtain ⟨q6, eq6⟩ : ∃ q : Nat, q = (al ++ [(⟨X, Y, C⟩ : S36)]).length := ⟨_, rfl⟩; rw [← eq6] at e6; clear eq6; subst e6; have HSt6 := Aside0.mk (HSt3.out.seta ho hg6 hb6); have hc6 : w6.cell? ⟨w.heap.size + 1 + 1, 2, none⟩ = some va := (blk_cell (blk_grown HSt3.out.f hg6 (Kd.R_ne HSt3.out.ha HSt3.out.f (by decide))) 2).trans rfl; have hz6 : w6.frozen? ⟨w.heap.size + 1 + 1, 2, none⟩ = false := blk_frozen (blk_grown HSt3.out.f hg6 (Kd.R_ne HSt3.out.ha HSt3.out.f (by decide))) 2; clear ho hb6 hg6 hat6))
        go_roundw
        case rel => exact ⟨i + 1, at3, _, al ++ [⟨X, Y, C⟩], rfl, by omega, ⟨by simp [hall], fun d hd => by
          rcases List.mem_append.1 hd with h | h
          · exact HAL.out.2 d h
          · rw [List.mem_singleton.1 h]; exact ⟨hX2, hY.1, hY.2, hC2⟩⟩, HSt6⟩
        case measure => simp [intOf]; omega
      · have hlt' := eq_false hlt
        have hi2 : (i : Int) = 1 + s1 % 12 := by omega
        have hal := HAL.out.1
        obtain ⟨Aa, ca, ea⟩ := Kd.R_slice HSt.out.ha
        rw [hal] at ea
        subst ea
        have z3 : wr.cell? ⟨w.heap.size + 1 + 1, 2, none⟩ = some (.slice Aa i ca) := (blk_cell HSt.out.f 2).trans rfl
        have hp2 : wr.cell? ⟨w.heap.size, 2, none⟩ = some (.int .u8 s2) := (blk_cell HSt.out.p 2).trans rfl
        have hf1 : wr.cell? ⟨w.heap.size + 1 + 1, 1, none⟩ = some (.int .i64 0) := (blk_cell HSt.out.f 1).trans rfl
        have hfz : wr.frozen? ⟨w.heap.size + 1 + 1, 1, none⟩ = false := blk_frozen HSt.out.f 1
        go_wp2_with fail
        obtain ⟨m, hm⟩ : ∃ m, m = 1 + s1 % 12 + s2 % 7 := ⟨_, rfl⟩
        have hm2 : 1 ≤ m ∧ m ≤ 18 := by omega
        have HAL2 : Aside0 ((1 ≤ al.length ∧ al.length ≤ 12) ∧ ∀ d ∈ al, interleavescene_Problem_Formula.okA n d) := ⟨⟨by omega, by omega⟩, HAL.out.2⟩
        rw [← hm]
        have HSm := Aside0.mk (HSt.out.setm m)
        obtain ⟨W7, hW7⟩ : ∃ W7, W7 = wr.setCell ⟨w.heap.size + 1 + 1, 1, none⟩ (.int .i64 m) := ⟨_, rfl⟩
        rw [show w.heap.size + 2 = w.heap.size + 1 + 1 from rfl, ← hW7] at HSm
        rw [← hW7]
        obtain ⟨q5, hq5⟩ : ∃ q5, q5 = 1 + s1 % 12 := ⟨_, rfl⟩
        (try rw [← hq5])
        clear hW7 HSt HAL hal hi2 hp1 hp2 hf0 hf1 hfz z3 hm hlt' hi hlt
        go_loopw [8] (fun _ wq => ∃ (at_ : Nat) (vc : Value) (cl : List (List Int)), Aside0 (cl.length ≤ 40 ∧ ∀ x ∈ cl, interleavescene_Problem_Formula.okC x) ∧ Aside0 (interleavescene_Problem_Formula.St w (fun _ => True) (fun _ => True) wq s0 s1 s2 A c L0.length L n m at_ (.slice Aa i ca) vc al cl)) (fun _ wq => L.length - interleavescene_Problem_Formula.atOf (w.heap.size + 3) wq)
        case atStart => exact ⟨_, _, _, ⟨by simp, fun x hx => by cases hx⟩, HSm⟩
        case round =>
          clear HSm
          obtain ⟨at_, vc, cl, HCL, HSt⟩ := hrel
          obtain ⟨Ac, cc, ec⟩ := Kd.R_slice HSt.out.hc
          obtain ⟨ncl, hncl⟩ : ∃ q : Nat, q = cl.length := ⟨_, rfl⟩
          rw [← hncl] at ec
          subst ec
          have HNCL := Aside0.mk hncl
          clear hncl
          have y0 : wr.cell? ⟨w.heap.size + 1 + 1 + 1, 0, none⟩ = some (.slice A L.length c) := (blk_cell HSt.out.t 0).trans rfl
          have y1 : wr.cell? ⟨w.heap.size + 1 + 1 + 1, 1, none⟩ = some (.int .i64 (at_ : Int)) := (blk_cell HSt.out.t 1).trans rfl
          have y2 : wr.cell? ⟨w.heap.size + 1 + 1, 3, none⟩ = some (.slice Ac ncl cc) := (blk_cell HSt.out.f 3).trans rfl
          by_cases hlt : at_ < L.length
          · by_cases hlt2 : ncl < 40
            · have hlt' : ((at_ : Int) < (L.length : Int)) = True := eq_true (by omega)
              have hlt2' : ((ncl : Int) < 40) = True := eq_true (by omega)
              go_wp2
              go_quiet (fail)
              go_wp2_with fail
              refine (interleavescene_Problem_Formula.next (wr.drewN nq) (w.heap.size + 3) A c L at_ (HSt.out.drewN nq).t (Kd.C_below HLL.out.2.1 (HSt.out.drewN nq).B) (fun ad hA hpos => by
                have := Kd.C_lt (hA ▸ HLL.out.2.1) hpos (by decide)
                omega) HLL.out.2.2 HLL.out.1).mono ?_
              rintro e w1 ⟨x, at1, rfl, hx0, hx1, _, hat1, _, ht1, hk1, hb1⟩
              have hat2 := hat1 hlt
              have HS1 := Aside0.mk ((HSt.out.drewN nq).next ht1 hk1 (hb1 w (by omega) (HSt.out.drewN nq).B)).freshC
              obtain ⟨B, hB⟩ : ∃ B, B = w1.heap.size := ⟨_, rfl⟩
              rw [← hB] at HS1
              have HBB : Aside0 (w.heap.size + 3 < B ∧ B ≤ w1.heap.size) := ⟨by have := blk_lt HS1.out.t; omega⟩
              obtain ⟨k0, hk0⟩ : ∃ k0 : Nat, (k0 : Int) = x % 4 := ⟨(x % 4).toNat, by omega⟩
              have hk3 : k0 ≤ 3 := by omega
              have HAT : Aside0 (interleavescene_Problem_Formula.atOf (w.heap.size + 3) wr = at_) := ⟨interleavescene_Problem_Formula.atOf_eq y1⟩
              clear ht1 hk1 hb1 HSt y0 y1 y2 hat1 hB
              go_wp2_with fail
              rw [← hk0]
              clear hk0
              go_loopw [8, 9] (fun v8 v9 wz => ∃ (at3 : Nat) (kk : Int) (c8 : List Int), v9 = .int .i64 kk ∧ -1 ≤ kk ∧ kk ≤ 3 ∧ at_ < at3 ∧ B ≤ wz.heap.size ∧ Aside0 ((c8.length : Int) + kk = k0 ∧ ∀ y ∈ c8, y ≠ 0 ∧ -18 ≤ y ∧ y ≤ 18) ∧ Aside0 (interleavescene_Problem_Formula.St w (fun _ => True) (fun k => k < B) wz s0 s1 s2 A c L0.length L n m at3 (.slice Aa i ca) (.slice Ac ncl cc) al cl) ∧ Aside0 (Kd.R (Kd.int .i64) 3 wz w.heap.size (fun k => B ≤ k) v8 c8)) (fun _ v9 _ => (intOf v9 + 1).toNat)
              case atStart => exact ⟨at1, k0, [], rfl, by omega, by omega, by omega, HBB.out.2, ⟨by simp, fun y hy => by cases hy⟩, HS1, ⟨Kd.R_nil _ _ _ _ _⟩⟩
              case round =>
                clear HS1
                obtain ⟨at3, kk, c8, rfl, hkk1, hkk2, hat3, hBz, HC8, HSt, HR8⟩ := hrel
                by_cases hkk : 0 ≤ kk
                · have hkk' := eq_true hkk
                  go_wp2_with fail
                  refine (interleavescene_Problem_Formula.next wr (w.heap.size + 3) A c L at3 HSt.out.t (Kd.C_below HLL.out.2.1 HSt.out.B) (fun ad hA hpos => by
                    have := Kd.C_lt (hA ▸ HLL.out.2.1) hpos (by decide)
                    omega) HLL.out.2.2 HLL.out.1).mono ?_
                  rintro e w2 ⟨x2, at4, rfl, hy0, hy1, hle, _, _, ht2, hk2, hb2⟩
                  have HS2 := Aside0.mk (HSt.out.next ht2 hk2 (hb2 w (by omega) HSt.out.B))
                  have HR2 : Aside0 (Kd.R (Kd.int .i64) 3 w2 w.heap.size (fun k => B ≤ k) u8 c8) := ⟨Kd.R_mono (Kd.R_keep (Kd.R_types HR8.out HSt.out.t (fun q hq => by
                    rcases List.mem_cons.1 hq with rfl | hq
                    · decide
                    · cases hq)) hk2 (fun k hk => hk.2)) (fun _ hk => hk.1)⟩
                  have hBz2 : B ≤ w2.heap.size := Nat.le_trans hBz hk2.1
                  have hf1 : w2.cell? ⟨w.heap.size + 1 + 1, 1, none⟩ = some (.int .i64 m) := (blk_cell HS2.out.f 1).trans rfl
                  clear ht2 hk2 hb2 HSt HR8
                  have hm0 : (m = 0) = False := eq_false (by omega)
                  have hq : 0 ≤ (x2 / 2).tmod m ∧ (x2 / 2).tmod m < m := by
                    rw [Int.tmod_eq_emod_of_nonneg (by omega)]; exact ⟨Int.emod_nonneg _ (by omega), Int.emod_lt_of_pos _ (by omega)⟩
                  have hqe : (x2 / 2).tmod m = x2 / 2 % m := Int.tmod_eq_emod_of_nonneg (by omega)
                  have hq2 : 0 ≤ x2 / 2 % m ∧ x2 / 2 % m < m := by rw [← hqe]; exact hq
                  by_cases hodd : x2 % 2 = 1
                  · have hodd' := eq_true hodd
                    go_wp2_with (first | ((with_reducible refine gate_builtin (b := .append) (xs := #[.tmp 115, .tmp 117]) rfl ?_); at_builtin; refine Kd.R_append (Kd.int .i64) (w0 := w) w.heap.size rfl (.tmp 115) (.tmp 117) 25 3 (.int .i64 0) 8 rfl Try.underlying25 info3 rfl (by decide) (by omega) u8 c8 (-(1 + x2 / 2 % m)) [.int .i64 (-(1 + x2 / 2 % m))] (fun k => B ≤ k) (fun _ => False) rfl rfl ?aP (fun _ hk => hk.elim) (fun k hk => by omega) ?aO ?aB ?aS ?aL ?_; (case aP => exact rfl); (case aO => exact HR2.out); (case aB => exact HS2.out.B); (case aS => exact HS2.out.B.size); (case aL => have := HC8.out.1; omega); intro v81 w3 ho3 hb3 hg3 hat3; have HS3 := Aside0.mk (HS2.out.grow HR2.out hg3 hb3 (fun k hk he => by have := HR2.out.1 k he.symm; omega)); have HR3 := Aside0.mk ho3; have hBz3 : B ≤ w3.heap.size := Nat.le_trans hBz2 hg3.size; clear ho3 hb3 hg3 hat3))
                    go_roundw
                    case rel => exact ⟨at4, kk - 1, c8 ++ [-(1 + x2 / 2 % m)], rfl, by omega, by omega, by omega, hBz3, ⟨by have := HC8.out.1; simp; omega, fun y hy => by
                      rcases List.mem_append.1 hy with h | h
                      · exact HC8.out.2 y h
                      · rw [List.mem_singleton.1 h]; omega⟩, HS3, HR3⟩
                    case measure => simp [intOf]; omega
                  · have hodd' := eq_false hodd
                    go_wp2_with (first | ((with_reducible refine gate_builtin (b := .append) (xs := #[.tmp 115, .tmp 117]) rfl ?_); at_builtin; refine Kd.R_append (Kd.int .i64) (w0 := w) w.heap.size rfl (.tmp 115) (.tmp 117) 25 3 (.int .i64 0) 8 rfl Try.underlying25 info3 rfl (by decide) (by omega) u8 c8 (1 + x2 / 2 % m) [.int .i64 (1 + x2 / 2 % m)] (fun k => B ≤ k) (fun _ => False) rfl rfl ?aP (fun _ hk => hk.elim) (fun k hk => by omega) ?aO ?aB ?aS ?aL ?_; (case aP => exact rfl); (case aO => exact HR2.out); (case aB => exact HS2.out.B); (case aS => exact HS2.out.B.size); (case aL => have := HC8.out.1; omega); intro v81 w3 ho3 hb3 hg3 hat3; have HS3 := Aside0.mk (HS2.out.grow HR2.out hg3 hb3 (fun k hk he => by have := HR2.out.1 k he.symm; omega)); have HR3 := Aside0.mk ho3; have hBz3 : B ≤ w3.heap.size := Nat.le_trans hBz2 hg3.size; clear ho3 hb3 hg3 hat3))
                    go_roundw
                    case rel => exact ⟨at4, kk - 1, c8 ++ [1 + x2 / 2 % m], rfl, by omega, by omega, by omega, hBz3, ⟨by have := HC8.out.1; simp; omega, fun y hy => by
                      rcases List.mem_append.1 hy with h | h
                      · exact HC8.out.2 y h
                      · rw [List.mem_singleton.1 h]; omega⟩, HS3, HR3⟩
                    case measure => simp [intOf]; omega
                · have hkk' := eq_false hkk
                  have hc8 : c8.length = k0 + 1 := by have := HC8.out.1; omega
                  obtain ⟨A8, c8c, e8⟩ := Kd.R_slice HR8.out
                  obtain ⟨n8, hn8⟩ : ∃ q : Nat, q = c8.length := ⟨_, rfl⟩
                  rw [← hn8] at e8
                  subst e8
                  have HN8 := Aside0.mk hn8
                  clear hn8
                  have HC9 := Aside0.mk hc8
                  clear hc8
                  have z3 : wr.cell? ⟨w.heap.size + 1 + 1, 3, none⟩ = some (.slice Ac ncl cc) := (blk_cell HSt.out.f 3).trans rfl
                  have hcl40 : cl.length ≤ 39 := by have := HNCL.out; omega
                  have HSa := Aside0.mk HSt.out.all
                  have HRo := Aside0.mk (Kd.R_apartR HR8.out HSt.out.hc (fun q hq => by
                    rcases List.mem_cons.1 hq with rfl | hq
                    · decide
                    · cases hq))
                  go_wp2_with (first | ((with_reducible refine gate_builtin (b := .append) (xs := #[.tmp 120, .tmp 122]) rfl ?_); at_builtin; refine Kd.R_append (Kd.slice 3 (Kd.int .i64)) (w0 := w) w.heap.size rfl (.tmp 120) (.tmp 122) 51 25 (.slice none 0 0) 24 rfl Try.underlying51 interleavescene_Problem_Formula.infoC rfl (by decide) (by omega) (.slice Ac ncl cc) cl c8 [.slice A8 n8 c8c] (fun _ => True) (fun k => B ≤ k ∧ some k ≠ (Value.slice Ac ncl cc).ownBlock) rfl rfl ?aP (fun _ hk => ⟨trivial, hk.2⟩) (fun _ _ => trivial) ?aO ?aB ?aS ?aL ?_; (case aP => exact ⟨_, rfl, HRo.out⟩); (case aO => exact HSa.out.hc); (case aB => exact HSa.out.B); (case aS => exact HSa.out.B.size); (case aL => omega); intro v1 w6 ho hb6 hg6 hat6; obtain ⟨A6, c6, e6⟩ := Kd.R_slice ho; obtain ⟨q6, eq6⟩ : ∃ q : Nat, q = (cl ++ [c8]).length := ⟨_, rfl⟩; rw [← eq6] at e6; clear eq6; subst e6; have HSt6 := Aside0.mk (HSa.out.setc ho hg6 hb6); have hc6 : w6.cell? ⟨w.heap.size + 1 + 1, 3, none⟩ = some (.slice Ac ncl cc) := (blk_cell (blk_grown HSa.out.f hg6 (Kd.R_ne HSa.out.hc HSa.out.f (by decide))) 3).trans rfl; have hz6 : w6.frozen? ⟨w.heap.size + 1 + 1, 3, none⟩ = false := blk_frozen (blk_grown HSa.out.f hg6 (Kd.R_ne HSa.out.hc HSa.out.f (by decide))) 3; clear ho hb6 hg6 hat6))
                  go_roundw
                  case rel => exact ⟨at3, _, cl ++ [c8], ⟨by simp; omega, fun y hy => by
                    rcases List.mem_append.1 hy with h | h
                    · exact HCL.out.2 y h
                    · rw [List.mem_singleton.1 h]; exact ⟨⟨by have := HC9.out; omega, by have := HC9.out; omega⟩, HC8.out.2⟩⟩, HSt6⟩
                  case measure =>
                    have hA := interleavescene_Problem_Formula.atOf_eq (g := w.heap.size + 3) ((blk_cell HSt6.out.t 1).trans rfl)
                    have hB := HAT.out
                    rw [show w.heap.size + 2 = w.heap.size + 1 + 1 from rfl] at hA
                    rw [hA, hB]
                    omega
            · have hlt' : ((at_ : Int) < (L.length : Int)) = True := eq_true (by omega)
              have hlt2' : ((ncl : Int) < 40) = False := eq_false (by omega)
              have g0 : wr.cell? ⟨w.heap.size + 1 + 1, 0, none⟩ = some (.int .i64 n) := (blk_cell HSt.out.f 0).trans rfl
              have g1 : wr.cell? ⟨w.heap.size + 1 + 1, 1, none⟩ = some (.int .i64 m) := (blk_cell HSt.out.f 1).trans rfl
              have g2 : wr.cell? ⟨w.heap.size + 1 + 1, 2, none⟩ = some (.slice Aa i ca) := (blk_cell HSt.out.f 2).trans rfl
              have r0 : wr.cell? ⟨w.heap.size + 1, 0, none⟩ = some (.int .i64 0) := (blk_cell HSt.out.r 0).trans rfl
              have r1 : wr.cell? ⟨w.heap.size + 1, 1, none⟩ = some (.int .i64 0) := (blk_cell HSt.out.r 1).trans rfl
              have r2 : wr.cell? ⟨w.heap.size + 1, 2, none⟩ = some (.slice none 0 0) := (blk_cell HSt.out.r 2).trans rfl
              have r3 : wr.cell? ⟨w.heap.size + 1, 3, none⟩ = some (.slice none 0 0) := (blk_cell HSt.out.r 3).trans rfl
              have k0 : wr.frozen? ⟨w.heap.size + 1, 0, none⟩ = false := blk_frozen HSt.out.r 0
              have k1 : wr.frozen? ⟨w.heap.size + 1, 1, none⟩ = false := blk_frozen HSt.out.r 1
              have k2 : wr.frozen? ⟨w.heap.size + 1, 2, none⟩ = false := blk_frozen HSt.out.r 2
              have k3 : wr.frozen? ⟨w.heap.size + 1, 3, none⟩ = false := blk_frozen HSt.out.r 3
              have HFIN : Aside0 (interleavescene_Problem_Formula.Fin w wr (.slice Aa i ca) (.slice Ac ncl cc) al cl) := ⟨⟨HSt.out.ha, HSt.out.hc, HSt.out.B, _, HSt.out.r⟩⟩
              go_wp2
              go_quiet (fail)
              go_wp2
              have HR9 : Aside0 ((((((wr.drewN nq).setCell ⟨w.heap.size + 1, 0, none⟩ (.int .i64 n)).setCell ⟨w.heap.size + 1, 1, none⟩ (.int .i64 m)).setCell ⟨w.heap.size + 1, 2, none⟩ (.slice Aa i ca)).setCell ⟨w.heap.size + 1, 3, none⟩ (.slice Ac ncl cc)).heap[w.heap.size + 1]? = some (.cells #[.int .i64 n, .int .i64 m, .slice Aa i ca, .slice Ac ncl cc] 53 (0, 0))) := ⟨blk_put (blk_put (blk_put (blk_put (blk_drewN HSt.out.r _) 0 _ rfl) 1 _ rfl) 2 _ rfl) 3 _ rfl⟩
              have HF9 := Aside0.mk (((((HFIN.out.drewN nq).set 0 (.int .i64 n)).set 1 (.int .i64 m)).set 2 (.slice Aa i ca)).set 3 (.slice Ac ncl cc))
              obtain ⟨W9, hW9⟩ : ∃ W9, W9 = ((((wr.drewN nq).setCell ⟨w.heap.size + 1, 0, none⟩ (.int .i64 n)).setCell ⟨w.heap.size + 1, 1, none⟩ (.int .i64 m)).setCell ⟨w.heap.size + 1, 2, none⟩ (.slice Aa i ca)).setCell ⟨w.heap.size + 1, 3, none⟩ (.slice Ac ncl cc) := ⟨_, rfl⟩
              rw [← hW9] at HR9 HF9 ⊢
              clear hW9
              have h90 : W9.cell? ⟨w.heap.size + 1, 0, none⟩ = some (.int .i64 n) := (blk_cell HR9.out 0).trans rfl
              have h91 : W9.cell? ⟨w.heap.size + 1, 1, none⟩ = some (.int .i64 m) := (blk_cell HR9.out 1).trans rfl
              have h92 : W9.cell? ⟨w.heap.size + 1, 2, none⟩ = some (.slice Aa i ca) := (blk_cell HR9.out 2).trans rfl
              have h93 : W9.cell? ⟨w.heap.size + 1, 3, none⟩ = some (.slice Ac ncl cc) := (blk_cell HR9.out 3).trans rfl
              (try simp only [Exit.inBlock, Exit.then])
              refine bodyPost_ret (by simp [results, Try.results27, go_sem, h90, h91, h92, h93]; try rfl) rfl ?_
              exact ⟨n, m, _, _, al, cl, rfl, HF9.out.1, HF9.out.2.1, hn2, HAL2.out.1, HAL2.out.2, HCL.out.1, HCL.out.2, HF9.out.2.2.1⟩
          · have hlt' : ((at_ : Int) < (L.length : Int)) = False := eq_false (by omega)
            have g0 : wr.cell? ⟨w.heap.size + 1 + 1, 0, none⟩ = some (.int .i64 n) := (blk_cell HSt.out.f 0).trans rfl
            have g1 : wr.cell? ⟨w.heap.size + 1 + 1, 1, none⟩ = some (.int .i64 m) := (blk_cell HSt.out.f 1).trans rfl
            have g2 : wr.cell? ⟨w.heap.size + 1 + 1, 2, none⟩ = some (.slice Aa i ca) := (blk_cell HSt.out.f 2).trans rfl
            have r0 : wr.cell? ⟨w.heap.size + 1, 0, none⟩ = some (.int .i64 0) := (blk_cell HSt.out.r 0).trans rfl
            have r1 : wr.cell? ⟨w.heap.size + 1, 1, none⟩ = some (.int .i64 0) := (blk_cell HSt.out.r 1).trans rfl
            have r2 : wr.cell? ⟨w.heap.size + 1, 2, none⟩ = some (.slice none 0 0) := (blk_cell HSt.out.r 2).trans rfl
            have r3 : wr.cell? ⟨w.heap.size + 1, 3, none⟩ = some (.slice none 0 0) := (blk_cell HSt.out.r 3).trans rfl
            have k0 : wr.frozen? ⟨w.heap.size + 1, 0, none⟩ = false := blk_frozen HSt.out.r 0
            have k1 : wr.frozen? ⟨w.heap.size + 1, 1, none⟩ = false := blk_frozen HSt.out.r 1
            have k2 : wr.frozen? ⟨w.heap.size + 1, 2, none⟩ = false := blk_frozen HSt.out.r 2
            have k3 : wr.frozen? ⟨w.heap.size + 1, 3, none⟩ = false := blk_frozen HSt.out.r 3
            have HFIN : Aside0 (interleavescene_Problem_Formula.Fin w wr (.slice Aa i ca) (.slice Ac ncl cc) al cl) := ⟨⟨HSt.out.ha, HSt.out.hc, HSt.out.B, _, HSt.out.r⟩⟩
            go_wp2
            go_quiet (fail)
            go_wp2
            have HR9 : Aside0 ((((((wr.drewN nq).setCell ⟨w.heap.size + 1, 0, none⟩ (.int .i64 n)).setCell ⟨w.heap.size + 1, 1, none⟩ (.int .i64 m)).setCell ⟨w.heap.size + 1, 2, none⟩ (.slice Aa i ca)).setCell ⟨w.heap.size + 1, 3, none⟩ (.slice Ac ncl cc)).heap[w.heap.size + 1]? = some (.cells #[.int .i64 n, .int .i64 m, .slice Aa i ca, .slice Ac ncl cc] 53 (0, 0))) := ⟨blk_put (blk_put (blk_put (blk_put (blk_drewN HSt.out.r _) 0 _ rfl) 1 _ rfl) 2 _ rfl) 3 _ rfl⟩
            have HF9 := Aside0.mk (((((HFIN.out.drewN nq).set 0 (.int .i64 n)).set 1 (.int .i64 m)).set 2 (.slice Aa i ca)).set 3 (.slice Ac ncl cc))
            obtain ⟨W9, hW9⟩ : ∃ W9, W9 = ((((wr.drewN nq).setCell ⟨w.heap.size + 1, 0, none⟩ (.int .i64 n)).setCell ⟨w.heap.size + 1, 1, none⟩ (.int .i64 m)).setCell ⟨w.heap.size + 1, 2, none⟩ (.slice Aa i ca)).setCell ⟨w.heap.size + 1, 3, none⟩ (.slice Ac ncl cc) := ⟨_, rfl⟩
            rw [← hW9] at HR9 HF9 ⊢
            clear hW9
            have h90 : W9.cell? ⟨w.heap.size + 1, 0, none⟩ = some (.int .i64 n) := (blk_cell HR9.out 0).trans rfl
            have h91 : W9.cell? ⟨w.heap.size + 1, 1, none⟩ = some (.int .i64 m) := (blk_cell HR9.out 1).trans rfl
            have h92 : W9.cell? ⟨w.heap.size + 1, 2, none⟩ = some (.slice Aa i ca) := (blk_cell HR9.out 2).trans rfl
            have h93 : W9.cell? ⟨w.heap.size + 1, 3, none⟩ = some (.slice Ac ncl cc) := (blk_cell HR9.out 3).trans rfl
            (try simp only [Exit.inBlock, Exit.then])
            refine bodyPost_ret (by simp [results, Try.results27, go_sem, h90, h91, h92, h93]; try rfl) rfl ?_
            exact ⟨n, m, _, _, al, cl, rfl, HF9.out.1, HF9.out.2.1, hn2, HAL2.out.1, HAL2.out.2, HCL.out.1, HCL.out.2, HF9.out.2.2.1⟩

/-! ### interleaveref31_Abs: function 28 -/
def interleaveref31_Abs.f (a0 : Int) : Option (Int) := if a0 < 0 then (some (wrap64 (-a0))) else (some a0)
set_option maxHeartbeats 8000000 in
set_option maxRecDepth 100000 in
theorem interleaveref31_Abs.calls (a0 : Int) (r : Int) (w : World) (h : interleaveref31_Abs.f a0 = some r) :
    Calls Try.prog 28 #[.int .i64 a0] w fun e w' => e = .returned (.int .i64 r) ∧ Drawn0 w w' := by
  have H : (if a0 < 0 then (some (wrap64 (-a0))) else (some a0)) = some r := h
  clear h
  by_cases c2 : a0 < 0
  · rw [if_pos c2] at H
    have c2b0 : decide (a0 < 0) = true := decide_eq_true c2
    clear c2
    obtain rfl := Option.some.inj H
    go_enter Try.func28, Try.ntmps28
    go_wp2
    go_ret
    exact ⟨by first | rfl | (simp; done) | (simp [*]; done), by repeat (first | exact Drawn0.refl _ | apply Drawn0.step)⟩
  · rw [if_neg c2] at H
    have c2b0 : decide (a0 < 0) = false := decide_eq_false c2
    clear c2
    obtain rfl := Option.some.inj H
    go_enter Try.func28, Try.ntmps28
    go_wp2
    go_ret
    exact ⟨by first | rfl | (simp; done) | (simp [*]; done), by repeat (first | exact Drawn0.refl _ | apply Drawn0.step)⟩

end Go.Proofs.Ytolfnlamknmeaaa.MDiffGreatest
