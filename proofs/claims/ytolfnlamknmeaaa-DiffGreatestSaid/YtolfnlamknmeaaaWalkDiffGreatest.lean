/- DiffGreatest: what the law's own function does, step by step, at every system that the made problem may give. -/
import Derived.Test.YtolfnlamknmeaaaMDiffGreatestx
import Derived.Outline
import Derived.OneCell
namespace Go.Proofs.Ytolfnlamknmeaaa.MDiffGreatest
open Go.RowKit Go.Proofs.YtolfnlamknmeaaaW.PrintWords Go.Proofs.YtolfnlamknmeaaaW.PrintLast Go.Proofs.YtolfnlamknmeaaaW.PrintMore
attribute [local go_sem] max2_int min2_int max_two min_two max_three min_three max_four min_four
set_option linter.unusedVariables false
set_option linter.unusedSimpArgs false
theorem interleavelaw32_DiffGreatest.low3 (x o : Int) (hx : -1099511627776 ≤ x ∧ x ≤ 0) (ho : -128 ≤ o ∧ o ≤ 127) : -2199023255552 ≤ (if wrap64 (x + wrap64 (o.tmod 3)) < 0 then wrap64 (x + wrap64 (o.tmod 3)) else 0) ∧ (if wrap64 (x + wrap64 (o.tmod 3)) < 0 then wrap64 (x + wrap64 (o.tmod 3)) else 0) ≤ 0 := by
  have h : -2 ≤ o.tmod 3 ∧ o.tmod 3 ≤ 2 := by
    by_cases h0 : 0 ≤ o
    · rw [Int.tmod_eq_emod_of_nonneg h0]; omega
    · rw [show o = -(-o) from by omega, Int.neg_tmod, Int.tmod_eq_emod_of_nonneg (by omega)]; omega
  rw [show wrap64 (o.tmod 3) = o.tmod 3 from by unfold wrap64; omega, show wrap64 (x + o.tmod 3) = x + o.tmod 3 from by unfold wrap64; omega]
  split <;> omega
theorem interleavelaw32_DiffGreatest.rdset (y : List Int) (i : Nat) (u v : Int) (hi : i < y.length) (hv : 0 ≤ v) : rd (y.set i u) v = if v = (i : Int) then u else rd y v := by
  unfold rd
  simp only [List.getD_eq_getElem?_getD, List.getElem?_set]
  by_cases e : v = (i : Int)
  · subst e; simp [hi]
  · rw [if_neg (by omega), if_neg e]
set_option maxHeartbeats 8000000 in
set_option maxRecDepth 100000 in
theorem interleavelaw32_DiffGreatest.calls (w : World) (s0 s1 s2 : Int) (A : Option Addr) (c : Nat) (L0 : List Int) (A9 : Option Addr) (c9 : Nat) (l9 : List Int) (hr9 : Kd.C (Kd.int .i8) w A9 l9.length l9) (hc9 : l9.length ≤ c9) (hb9 : ∀ v ∈ l9, -128 ≤ v ∧ v ≤ 127) (H : ∀ (n : Nat) (l : List S36), 2 ≤ n ∧ n ≤ 6 → l.length ≤ 52 → (∀ d ∈ l, interleavelaw32_system.okL n d) → ∃ (k : Nat) (x cy : List Int) (ok : Bool), diff_Solve.f k (n : Int) l = some (x, cy, ok) ∧ interleavelaw32_awake.f k = some true ∧ (ok = false → x = [] ∧ diff_Cycle.f k l cy = some true) ∧
      (ok = true → x.length = n ∧ diff_Holds.f l x = some true ∧ (∀ v : Int, 0 ≤ v → v < n → -1099511627776 ≤ rd x v ∧ rd x v ≤ 0) ∧
        ∀ y : List Int, y.length = n → (∀ v : Int, 0 ≤ v → v < n → -2199023255552 ≤ rd y v ∧ rd y v ≤ 0) → ∃ b, interleaveref31_HoldAll.f k l y = some b ∧ (b = true → ∀ v : Int, 0 ≤ v → v < n → rd y v ≤ rd x v))) (hr : Kd.C (Kd.int .u8) w A L0.length L0) (hc : L0.length ≤ c) (h0 : 0 ≤ s0 ∧ s0 ≤ 255) (h1 : 0 ≤ s1 ∧ s1 ≤ 255) (h2 : 0 ≤ s2 ∧ s2 ≤ 255) (hu : ∀ x ∈ L0, 0 ≤ x ∧ x ≤ 255) :
    Calls Try.prog 11 #[.agg #[.int .u8 s0, .int .u8 s1, .int .u8 s2, .slice A L0.length c], .slice A9 l9.length c9] w fun e w' => e = .returned (.bool true) ∧ Below w.heap.size w w' := by
  have hu32 := Try.underlying32
  have HU := Aside0.mk hu
  have HR := Aside0.mk hr
  have H9 := Aside0.mk (And.intro hr9 hb9)
  have HH := Aside0.mk H
  clear hr hu H hr9 hb9
  go_enter Try.func11, Try.ntmps11
  go_wp2_with fail
  refine (interleavelaw32_system.calls (w.alloc _) s0 s1 s2 A c L0 (Kd.C_below HR.out (below_alloc (Below.refl _ _) _)) hc h0 h1 h2 HU.out).mono ?_
  rintro e w1 ⟨n0, vl, l, rfl, HRl, hn, hll, hl, HB1⟩
  obtain ⟨n, rfl⟩ : ∃ n : Nat, n0 = (n : Int) := ⟨n0.toNat, by omega⟩
  obtain ⟨k, x, cy, ok, hs, ha, hf1, hf2⟩ := HH.out n l (by omega) hll hl
  obtain ⟨A1, c1, rfl⟩ := Kd.R_slice HRl
  have HC := Aside0.mk (Kd.R_reads' HRl).2
  have HBw := Aside0.mk (below_step (below_alloc (Below.refl w.heap.size w) (.cells #[.int .u8 s0, .int .u8 s1, .int .u8 s2, .slice A L0.length c] 32)) HB1)
  clear HRl HB1 HU HR HH
  have HS := Aside0.mk hs
  have HHA := Aside0.mk ha
  have HF1 := Aside0.mk hf1
  have HF2 := Aside0.mk hf2
  clear hl hs ha hf1 hf2
  go_wp2_with fail
  refine (diff_Solve.calls k (n : Int) A1 c1 l x cy ok w1 HC.out.2 HC.out.1 HS.out).mono ?_
  rintro e w6 ⟨v0, v1, rfl, HXr, HYr, HBs⟩
  have HB6 := Aside0.mk HBs
  obtain ⟨A3, c3, rfl⟩ := Kd.R_slice HYr
  have HY2 := Aside0.mk (Kd.R_reads' HYr).2
  have HX0 := Aside0.mk HXr
  clear HYr HBs HXr
  cases ok with
  | false =>
    have hx0 : x = [] ∧ diff_Cycle.f k l cy = some true := by have h := HF1.out; simpa using h
    obtain ⟨hx0, hcy⟩ := hx0
    subst hx0
    have HCY := Aside0.mk hcy
    clear hcy HF1 HF2
    obtain ⟨A2, c2, rfl⟩ := Kd.R_slice HX0.out
    have hl0 : ([] : List Int).length = 0 := rfl
    go_wp2_with fail
    refine (diff_Cycle.calls k A1 c1 l A3 c3 cy true w6 (Kd.C_below HC.out.2 HB6.out) HC.out.1 HY2.out.2 HY2.out.1 HCY.out).mono ?_
    rintro e w7 ⟨rfl, ⟨⟨kq, rfl⟩⟩⟩
    have HB7b : Aside0 (Below w6.heap.size w6 (w6.drewN kq)) := ⟨pw_below_drewN (Below.refl _ _) kq⟩
    go_wp2_with fail
    refine (interleavelaw32_awake.calls k true _ HHA.out).mono ?_
    rintro e w8 ⟨rfl, HB8⟩
    have HBf := Aside0.mk (below_step HBw.out (below_step (below_step HB6.out HB7b.out) HB8))
    clear HB8
    go_wp2
    go_ret
    exact ⟨rfl, HBf.out⟩
  | true =>
    obtain ⟨hxn, hho, hbx, hy⟩ := HF2.out rfl
    obtain rfl : n = x.length := hxn.symm
    clear hxn
    obtain ⟨ad2, c2, rfl⟩ := Kd.R_slice1 HX0.out (by omega)
    obtain ⟨gx, rfl⟩ := Kd.R_head HX0.out
    have HX2 := Aside0.mk (Kd.R_reads' HX0.out).2
    have HHO := Aside0.mk hho
    have HBX := Aside0.mk hbx
    have HYY := Aside0.mk hy
    clear HF1 HF2 hho hbx hy HX0
    have hmk : ∀ W : World, (Instr.makeSlice 25 (.int .i64 (x.length : Int)) (.int .i64 (x.length : Int))).run Try.prog W = .ok (.slice (some ⟨W.heap.size, 0, none⟩) x.length x.length) (W.alloc (.cells (madeCells #[.int .i64 0] x.length) 3)) := print_make 25 3 .i64 8 Try.underlying25 info3 (by omega) x.length (by omega)
    go_wp2_with fail
    refine (diff_Holds.calls A1 c1 l _ c2 x true w6 (Kd.C_below HC.out.2 HB6.out) HC.out.1 HX2.out.2 HX2.out.1 HHO.out).mono ?_
    rintro e w7 ⟨rfl, HB7⟩
    have HB7b := Aside0.mk HB7
    clear HB7
    go_wp2_with fail
    obtain ⟨gy, hgy⟩ : ∃ gy, gy = w7.heap.size := ⟨_, rfl⟩
    have hY0 := diff_Solve.made w7 x.length (by omega)
    have HB8 : Aside0 (Below w7.heap.size w7 (w7.alloc (.cells (madeCells #[.int .i64 0] x.length) 3))) := ⟨below_alloc (Below.refl _ _) _⟩
    rw [← hgy] at hY0 ⊢
    have HY0 := Aside0.mk hY0
    have HGY := Aside0.mk hgy
    clear hY0 hgy hmk
    have hr0 : ∀ v : Int, 0 ≤ v → v < x.length → rd (List.replicate x.length (0 : Int)) v = 0 := fun v h0 h1 => by
      unfold rd; rw [List.getD_eq_getElem?_getD, List.getElem?_replicate, if_pos (by omega)]; rfl
    have HY1 : Aside0 ((List.replicate x.length (0 : Int)).length = x.length ∧ ∀ v : Int, 0 ≤ v → v < x.length → -2199023255552 ≤ rd (List.replicate x.length (0 : Int)) v ∧ rd (List.replicate x.length (0 : Int)) v ≤ 0) := ⟨by simp, fun v h0 h1 => by rw [hr0 v h0 h1]; omega⟩
    clear hr0
    go_loopw [52] (fun v52 wr => ∃ (i : Nat) (y : List Int), v52 = .int .i64 (i : Int) ∧ i ≤ x.length ∧ Aside0 (y.length = x.length ∧ ∀ v : Int, 0 ≤ v → v < x.length → -2199023255552 ≤ rd y v ∧ rd y v ≤ 0) ∧ Aside0 (Kd.R (Kd.int .i64) 3 wr 0 (fun k => k = gy) (.slice (some ⟨gy, 0, none⟩) x.length x.length) y) ∧ Aside0 (Below w7.heap.size w7 wr)) (fun v52 _ => x.length - (intOf v52).toNat)
    case atStart => exact ⟨0, _, rfl, by omega, HY1, HY0, HB8⟩
    case round =>
      clear HY1 HY0 HB8
      obtain ⟨i, y, rfl, hi, HYL, HYR, HB⟩ := hrel
      have HBx := Aside0.mk (below_step HB7b.out HB.out)
      by_cases hlt : i < x.length
      · have hlt' : ((i : Int) < (x.length : Int)) = True := eq_true (by omega)
        have hltn : (i < x.length) = True := eq_true hlt
        obtain ⟨_, e1, p0⟩ := Kd.at_int (Kd.C_below HX2.out.2 HBx.out) (i : Int) (by omega) (by omega)
        injection e1 with e1
        subst e1
        have hbi := HBX.out (i : Int) (by omega) (by omega)
        obtain ⟨xi, hxi⟩ : ∃ xi, xi = rd x (i : Int) := ⟨_, rfl⟩
        rw [← hxi] at p0 hbi
        have P0 : wr.cell? ⟨gx, i, none⟩ = some (.int .i64 xi) := by have h := p0; simpa [Addr.add_lit] using h
        have hgt : (0 < xi) = False := eq_false (by omega)
        clear p0 hxi
        by_cases hi9 : i < l9.length
        · have hi9' : ((i : Int) < (l9.length : Int)) = True := eq_true (by omega)
          have hi9n : (i < l9.length) = True := eq_true hi9
          obtain ⟨ad9, e9, q0⟩ := Kd.at_int (Kd.C_below H9.out.1 (below_step HBw.out (below_step HB6.out HBx.out))) (i : Int) (by omega) (by omega)
          subst e9
          have Q0 : wr.cell? (ad9.add i) = some (.int .i8 (rd l9 (i : Int))) := q0
          obtain ⟨oi, hoi⟩ : ∃ oi, oi = rd l9 (i : Int) := ⟨_, rfl⟩
          have hob : -128 ≤ oi ∧ oi ≤ 127 := by
            refine H9.out.2 oi ?_
            rw [hoi, rd, List.getD_eq_getElem?_getD, List.getElem?_eq_getElem (show (i : Int).toNat < l9.length from by omega)]
            exact List.getElem_mem _
          rw [← hoi] at Q0
          clear q0 hoi
          obtain ⟨hc1, hf1⟩ := Kd.R_celln 0 (Kd.R_drew HYR.out) (i : Int) (by omega) (by omega)
          rw [Int.toNat_natCast] at hc1 hf1
          go_wp2_with fail
          refine start_ (n := 16) (S := fun w' => w'.cell? ⟨gx, i, none⟩ = some (.int .i64 xi) ∧ w'.cell? (ad9.add i) = some (.int .i8 oi)) (ds := [15]) #[false, false, false, false, false, false, false, false, false, false, false, false, false, false, false, false] (by kernel_rfl) rfl rfl ⟨P0, Q0⟩ (fun hHeld => ?_)
          refine pure_ (i := 0) (N := some 64) (v := ?_) (a' := ?_) #[true, false, false, false, false, false, false, false, false, false, false, false, false, false, false, false] rfl rfl (by kernel_rfl) (fun _ _ _ h => h) (Or.inl ⟨by rfl, ?_⟩) ?_ ?_
          rotate_left
          · intro w'
            go_simp
            with_reducible rfl
          rotate_left
          · simp only [Act.put, List.setIfInBounds_toArray, List.set_cons_zero, List.set_cons_succ, i64_w, i32_w]
            rfl
          refine pure_ (i := 1) (N := some 65) (v := ?_) (a' := ?_) #[true, true, false, false, false, false, false, false, false, false, false, false, false, false, false, false] rfl rfl (by kernel_rfl) (fun _ _ _ h => h) (Or.inl ⟨by rfl, ?_⟩) ?_ ?_
          rotate_left
          · intro w'
            go_simp
            with_reducible rfl
          rotate_left
          · simp only [Act.put, List.setIfInBounds_toArray, List.set_cons_zero, List.set_cons_succ, i64_w, i32_w]
            rfl
          refine pure_ (i := 2) (N := some 66) (v := ?_) (a' := ?_) #[true, true, true, false, false, false, false, false, false, false, false, false, false, false, false, false] rfl rfl (by kernel_rfl) (fun _ _ _ h => h) (Or.inl ⟨by rfl, ?_⟩) ?_ ?_
          rotate_left
          · intro w'
            go_simp
            with_reducible rfl
          rotate_left
          · simp only [Act.put, List.setIfInBounds_toArray, List.set_cons_zero, List.set_cons_succ, i64_w, i32_w]
            rfl
          refine pure_ (i := 3) (N := some 67) (v := ?_) (a' := ?_) #[true, true, true, true, false, false, false, false, false, false, false, false, false, false, false, false] rfl rfl (by kernel_rfl) (fun _ _ _ h => h) (Or.inl ⟨by rfl, ?_⟩) ?_ ?_
          rotate_left
          · intro w'
            go_simp
            with_reducible rfl
          rotate_left
          · simp only [Act.put, List.setIfInBounds_toArray, List.set_cons_zero, List.set_cons_succ, i64_w, i32_w]
            rfl
          refine pure_ (i := 4) (N := some 68) (v := ?_) (a' := ?_) #[true, true, true, true, true, false, false, false, false, false, false, false, false, false, false, false] rfl rfl (by kernel_rfl) (fun _ _ _ h => h) (Or.inl ⟨by rfl, ?_⟩) ?_ ?_
          rotate_left
          · intro w'
            go_simp
            with_reducible rfl
          rotate_left
          · simp only [Act.put, List.setIfInBounds_toArray, List.set_cons_zero, List.set_cons_succ, i64_w, i32_w]
            rfl
          refine pure_ (i := 6) (N := some 70) (v := ?_) (a' := ?_) #[true, true, true, true, true, false, true, false, false, false, false, false, false, false, false, false] rfl rfl (by kernel_rfl) (fun _ _ _ h => h) (Or.inl ⟨by rfl, ?_⟩) ?_ ?_
          rotate_left
          · intro w'
            go_simp
            with_reducible rfl
          rotate_left
          · simp only [Act.put, List.setIfInBounds_toArray, List.set_cons_zero, List.set_cons_succ, i64_w, i32_w]
            rfl
          refine pure_ (i := 7) (N := some 71) (v := ?_) (a' := ?_) #[true, true, true, true, true, false, true, true, false, false, false, false, false, false, false, false] rfl rfl (by kernel_rfl) (fun _ _ _ h => h) (Or.inl ⟨by rfl, ?_⟩) ?_ ?_
          rotate_left
          · intro w'
            go_simp
            with_reducible rfl
          rotate_left
          · simp only [Act.put, List.setIfInBounds_toArray, List.set_cons_zero, List.set_cons_succ, i64_w, i32_w]
            rfl
          refine pure_ (i := 8) (N := some 72) (v := ?_) (a' := ?_) #[true, true, true, true, true, false, true, true, true, false, false, false, false, false, false, false] rfl rfl (by kernel_rfl) (fun _ _ _ h => h) (Or.inl ⟨by rfl, ?_⟩) ?_ ?_
          rotate_left
          · intro w'
            go_simp
            with_reducible rfl
          rotate_left
          · simp only [Act.put, List.setIfInBounds_toArray, List.set_cons_zero, List.set_cons_succ, i64_w, i32_w]
            rfl
          refine take_ (i := 5) (N := some 69) (v := ?_) (a' := ?_) #[true, true, true, true, true, true, true, true, true, false, false, false, false, false, false, false] rfl rfl (by kernel_rfl) (fun _ _ _ h => h) (Or.inl ⟨by rfl, ?_⟩) hHeld ?_ ?_
          rotate_left
          · rintro w' ⟨s0, s1⟩
            go_simp
            with_reducible rfl
          rotate_left
          · simp only [Act.put, List.setIfInBounds_toArray, List.set_cons_zero, List.set_cons_succ, i64_w, i32_w]
            rfl
          refine take_ (i := 9) (N := some 73) (v := ?_) (a' := ?_) #[true, true, true, true, true, true, true, true, true, true, false, false, false, false, false, false] rfl rfl (by kernel_rfl) (fun _ _ _ h => h) (Or.inl ⟨by rfl, ?_⟩) hHeld ?_ ?_
          rotate_left
          · rintro w' ⟨s0, s1⟩
            go_simp
            with_reducible rfl
          rotate_left
          · simp only [Act.put, List.setIfInBounds_toArray, List.set_cons_zero, List.set_cons_succ, i64_w, i32_w]
            rfl
          refine pure_ (i := 10) (N := some 74) (v := ?_) (a' := ?_) #[true, true, true, true, true, true, true, true, true, true, true, false, false, false, false, false] rfl rfl (by kernel_rfl) (fun _ _ _ h => h) (Or.inl ⟨by rfl, ?_⟩) ?_ ?_
          rotate_left
          · intro w'
            go_simp
            with_reducible rfl
          rotate_left
          · simp only [Act.put, List.setIfInBounds_toArray, List.set_cons_zero, List.set_cons_succ, i64_w, i32_w]
            rfl
          refine pure_ (i := 11) (N := some 75) (v := ?_) (a' := ?_) #[true, true, true, true, true, true, true, true, true, true, true, true, false, false, false, false] rfl rfl (by kernel_rfl) (fun _ _ _ h => h) (Or.inl ⟨by rfl, ?_⟩) ?_ ?_
          rotate_left
          · intro w'
            go_simp
            with_reducible rfl
          rotate_left
          · simp only [Act.put, List.setIfInBounds_toArray, List.set_cons_zero, List.set_cons_succ, i64_w, i32_w]
            rfl
          refine pure_ (i := 12) (N := some 76) (v := ?_) (a' := ?_) #[true, true, true, true, true, true, true, true, true, true, true, true, true, false, false, false] rfl rfl (by kernel_rfl) (fun _ _ _ h => h) (Or.inl ⟨by rfl, ?_⟩) ?_ ?_
          rotate_left
          · intro w'
            go_simp
            with_reducible rfl
          rotate_left
          · simp only [Act.put, List.setIfInBounds_toArray, List.set_cons_zero, List.set_cons_succ, i64_w, i32_w]
            rfl
          refine pure_ (i := 13) (N := some 77) (v := ?_) (a' := ?_) #[true, true, true, true, true, true, true, true, true, true, true, true, true, true, false, false] rfl rfl (by kernel_rfl) (fun _ _ _ h => h) (Or.inl ⟨by rfl, ?_⟩) ?_ ?_
          rotate_left
          · intro w'
            go_simp
            with_reducible rfl
          rotate_left
          · simp only [Act.put, List.setIfInBounds_toArray, List.set_cons_zero, List.set_cons_succ, i64_w, i32_w]
            rfl
          refine pure_ (i := 14) (N := some 78) (v := ?_) (a' := ?_) #[true, true, true, true, true, true, true, true, true, true, true, true, true, true, true, false] rfl rfl (by kernel_rfl) (fun _ _ _ h => h) (Or.inl ⟨by rfl, ?_⟩) ?_ ?_
          rotate_left
          · intro w'
            go_simp
            with_reducible rfl
          rotate_left
          · simp only [Act.put, List.setIfInBounds_toArray, List.set_cons_zero, List.set_cons_succ, i64_w, i32_w]
            rfl
          refine last_ (i := 15) (N := none) #[true, true, true, true, true, true, true, true, true, true, true, true, true, true, true, true] rfl rfl (by kernel_rfl) (by decide) (fun K hK => ?_)
          obtain ⟨t0, t1⟩ := hHeld
          refine skip_ (w1 := ?_) (by rfl) rfl ?_ ?_
          rotate_left
          · go_simp
            rfl
          refine hK.out _ _ ?_
          clear hK K
          refine done_ (by kernel_rfl) ?_
          have hub := interleavelaw32_DiffGreatest.low3 xi oi hbi hob
          obtain ⟨u, hu⟩ : ∃ u, u = (if wrap64 (xi + wrap64 (oi.tmod 3)) < 0 then wrap64 (xi + wrap64 (oi.tmod 3)) else 0) := ⟨_, rfl⟩
          rw [← hu] at hub ⊢
          clear hu hc1 hf1
          have HYR2 := Aside0.mk (Kd.R_drew (Kd.R_putn HYR.out (i : Int) u))
          rw [Int.toNat_natCast] at HYR2
          have HB2 : Aside0 (Below w7.heap.size w7 (wr.setCell ⟨gy, i, none⟩ (.int .i64 u)).drew) := ⟨below_drew (below_set HB.out (by have := HGY.out; omega))⟩
          have HYL2 : Aside0 ((y.set i u).length = x.length ∧ ∀ v : Int, 0 ≤ v → v < x.length → -2199023255552 ≤ rd (y.set i u) v ∧ rd (y.set i u) v ≤ 0) := ⟨by rw [List.length_set]; exact HYL.out.1, fun v h0 h1 => by
            rw [interleavelaw32_DiffGreatest.rdset y i u v (by rw [HYL.out.1]; exact hlt) h0]
            split
            · exact hub
            · exact HYL.out.2 v h0 h1⟩
          go_wp2_with fail
          go_roundw
          case rel => exact ⟨i + 1, _, rfl, by omega, HYL2, HYR2, HB2⟩
          case measure => simp [intOf]; omega
        · have hi9' : ((i : Int) < (l9.length : Int)) = False := eq_false (by omega)
          go_wp2_with fail
          go_roundw
          case rel => exact ⟨i + 1, y, rfl, by omega, HYL, HYR, HB⟩
          case measure => simp [intOf]; omega
      · have hlt' : ((i : Int) < (x.length : Int)) = False := eq_false (by omega)
        obtain ⟨HL, HBY⟩ := HYL.out
        obtain ⟨bb, hb1, hb2⟩ := HYY.out y HL HBY
        have HB1 := Aside0.mk hb1
        have HBB := Aside0.mk hb2
        have HL2 := Aside0.mk HL
        clear hb1 hb2 HL HBY
        go_wp2_with fail
        have hcall : Calls Try.prog 22 #[.slice A1 l.length c1, .slice (some ⟨gy, 0, none⟩) x.length x.length] wr fun e w' => e = .returned (.bool bb) ∧ Below wr.heap.size wr w' := by
          have h := interleaveref31_HoldAll.calls k A1 c1 l (some ⟨gy, 0, none⟩) x.length y bb wr (Kd.C_below HC.out.2 (below_step HB6.out HBx.out)) HC.out.1 (Kd.R_reads' HYR.out).2.2 (by rw [HL2.out]; exact Nat.le_refl _) HB1.out
          rw [HL2.out] at h
          exact h
        refine hcall.mono ?_
        clear hcall
        rintro e W8 ⟨rfl, HBh⟩
        have HYRq := Aside0.mk (Kd.R_below HYR.out HBh)
        have HBq := Aside0.mk (below_step HB.out HBh)
        clear HBh HYR HB HBx
        cases bb with
        | false =>
          go_wp2_with fail
          refine (interleavelaw32_awake.calls k true W8 HHA.out).mono ?_
          rintro e w9 ⟨rfl, HB9⟩
          have HBf := Aside0.mk (below_step HBw.out (below_step HB6.out (below_step HB7b.out (below_step HBq.out HB9))))
          clear HB9
          go_wp2
          go_ret
          exact ⟨rfl, HBf.out⟩
        | true =>
          have hle : ∀ v : Int, 0 ≤ v → v < x.length → rd y v ≤ rd x v := HBB.out rfl
          have HLE := Aside0.mk hle
          clear hle HBB
          go_wp2_with fail
          go_loopw [85] (fun v85 wq => ∃ (j : Nat), v85 = .int .i64 (j : Int) ∧ j ≤ x.length ∧ Aside0 (Kd.R (Kd.int .i64) 3 wq 0 (fun k => k = gy) (.slice (some ⟨gy, 0, none⟩) x.length x.length) y) ∧ Aside0 (Below w7.heap.size w7 wq)) (fun v85 _ => x.length - (intOf v85).toNat)
          case atStart => exact ⟨0, rfl, by omega, HYRq, HBq⟩
          case round =>
            clear HYRq HBq
            obtain ⟨j, rfl, hj, HYR, HB⟩ := hrel
            by_cases hlj : j < x.length
            · have hlj' : ((j : Int) < (x.length : Int)) = True := eq_true (by omega)
              have hljn : (j < x.length) = True := eq_true hlj
              obtain ⟨_, e1, p0⟩ := Kd.at_int (Kd.C_below HX2.out.2 (below_step HB7b.out HB.out)) (j : Int) (by omega) (by omega)
              injection e1 with e1
              subst e1
              obtain ⟨hc1, _⟩ := Kd.R_celln 0 HYR.out (j : Int) (by omega) (by omega)
              have hleq := HLE.out (j : Int) (by omega) (by omega)
              have P0 : wr.cell? ⟨gx, j, none⟩ = some (.int .i64 (rd x (j : Int))) := by have h := p0; simpa [Addr.add_lit] using h
              have Q0 : wr.cell? ⟨gy, j, none⟩ = some (.int .i64 (rd y (j : Int))) := hc1
              obtain ⟨xj, hxj⟩ : ∃ xj, xj = rd x (j : Int) := ⟨_, rfl⟩
              obtain ⟨yj, hyj⟩ : ∃ yj, yj = rd y (j : Int) := ⟨_, rfl⟩
              rw [← hxj, ← hyj] at hleq
              rw [← hxj] at P0
              rw [← hyj] at Q0
              have hgt : (xj < yj) = False := eq_false (by omega)
              clear p0 hc1 hxj hyj
              go_wp2_with fail
              refine start_ (n := 9) (S := fun w' => w'.cell? ⟨gy, j, none⟩ = some (.int .i64 yj) ∧ w'.cell? ⟨gx, j, none⟩ = some (.int .i64 xj)) (ds := []) #[false, false, false, false, false, false, false, false, false] (by kernel_rfl) rfl rfl ⟨Q0, P0⟩ (fun hHeld => ?_)
              refine pure_ (i := 0) (N := some 88) (v := ?_) (a' := ?_) #[true, false, false, false, false, false, false, false, false] rfl rfl (by kernel_rfl) (fun _ _ _ h => h) (Or.inl ⟨by rfl, ?_⟩) ?_ ?_
              rotate_left
              · intro w'
                go_simp
                with_reducible rfl
              rotate_left
              · simp only [Act.put, List.setIfInBounds_toArray, List.set_cons_zero, List.set_cons_succ, i64_w, i32_w]
                rfl
              refine pure_ (i := 1) (N := some 89) (v := ?_) (a' := ?_) #[true, true, false, false, false, false, false, false, false] rfl rfl (by kernel_rfl) (fun _ _ _ h => h) (Or.inl ⟨by rfl, ?_⟩) ?_ ?_
              rotate_left
              · intro w'
                go_simp
                with_reducible rfl
              rotate_left
              · simp only [Act.put, List.setIfInBounds_toArray, List.set_cons_zero, List.set_cons_succ, i64_w, i32_w]
                rfl
              refine pure_ (i := 2) (N := some 90) (v := ?_) (a' := ?_) #[true, true, true, false, false, false, false, false, false] rfl rfl (by kernel_rfl) (fun _ _ _ h => h) (Or.inl ⟨by rfl, ?_⟩) ?_ ?_
              rotate_left
              · intro w'
                go_simp
                with_reducible rfl
              rotate_left
              · simp only [Act.put, List.setIfInBounds_toArray, List.set_cons_zero, List.set_cons_succ, i64_w, i32_w]
                rfl
              refine pure_ (i := 4) (N := some 92) (v := ?_) (a' := ?_) #[true, true, true, false, true, false, false, false, false] rfl rfl (by kernel_rfl) (fun _ _ _ h => h) (Or.inl ⟨by rfl, ?_⟩) ?_ ?_
              rotate_left
              · intro w'
                go_simp
                with_reducible rfl
              rotate_left
              · simp only [Act.put, List.setIfInBounds_toArray, List.set_cons_zero, List.set_cons_succ, i64_w, i32_w]
                rfl
              refine pure_ (i := 5) (N := some 93) (v := ?_) (a' := ?_) #[true, true, true, false, true, true, false, false, false] rfl rfl (by kernel_rfl) (fun _ _ _ h => h) (Or.inl ⟨by rfl, ?_⟩) ?_ ?_
              rotate_left
              · intro w'
                go_simp
                with_reducible rfl
              rotate_left
              · simp only [Act.put, List.setIfInBounds_toArray, List.set_cons_zero, List.set_cons_succ, i64_w, i32_w]
                rfl
              refine pure_ (i := 6) (N := some 94) (v := ?_) (a' := ?_) #[true, true, true, false, true, true, true, false, false] rfl rfl (by kernel_rfl) (fun _ _ _ h => h) (Or.inl ⟨by rfl, ?_⟩) ?_ ?_
              rotate_left
              · intro w'
                go_simp
                with_reducible rfl
              rotate_left
              · simp only [Act.put, List.setIfInBounds_toArray, List.set_cons_zero, List.set_cons_succ, i64_w, i32_w]
                rfl
              refine take_ (i := 3) (N := some 91) (v := ?_) (a' := ?_) #[true, true, true, true, true, true, true, false, false] rfl rfl (by kernel_rfl) (fun _ _ _ h => h) (Or.inl ⟨by rfl, ?_⟩) hHeld ?_ ?_
              rotate_left
              · rintro w' ⟨s0, s1⟩
                go_simp
                with_reducible rfl
              rotate_left
              · simp only [Act.put, List.setIfInBounds_toArray, List.set_cons_zero, List.set_cons_succ, i64_w, i32_w]
                rfl
              refine take_ (i := 7) (N := some 95) (v := ?_) (a' := ?_) #[true, true, true, true, true, true, true, true, false] rfl rfl (by kernel_rfl) (fun _ _ _ h => h) (Or.inl ⟨by rfl, ?_⟩) hHeld ?_ ?_
              rotate_left
              · rintro w' ⟨s0, s1⟩
                go_simp
                with_reducible rfl
              rotate_left
              · simp only [Act.put, List.setIfInBounds_toArray, List.set_cons_zero, List.set_cons_succ, i64_w, i32_w]
                rfl
              refine pure_ (i := 8) (N := some 96) (v := ?_) (a' := ?_) #[true, true, true, true, true, true, true, true, true] rfl rfl (by kernel_rfl) (fun _ _ _ h => h) (Or.inl ⟨by rfl, ?_⟩) ?_ ?_
              rotate_left
              · intro w'
                go_simp
                with_reducible rfl
              rotate_left
              · simp only [Act.put, List.setIfInBounds_toArray, List.set_cons_zero, List.set_cons_succ, i64_w, i32_w]
                rfl
              refine done_ (by kernel_rfl) ?_
              go_wp2_with fail
              go_roundw
              case rel => exact ⟨j + 1, rfl, by omega, ⟨Kd.R_drew HYR.out⟩, ⟨below_drew HB.out⟩⟩
              case measure => simp [intOf]; omega
            · have hlj' : ((j : Int) < (x.length : Int)) = False := eq_false (by omega)
              go_wp2_with fail
              refine (interleavelaw32_awake.calls k true _ HHA.out).mono ?_
              rintro e w9 ⟨rfl, HB9⟩
              have HBf := Aside0.mk (below_step HBw.out (below_step HB6.out (below_step HB7b.out (below_step HB.out HB9))))
              clear HB9
              go_wp2
              go_ret
              exact ⟨rfl, HBf.out⟩


end Go.Proofs.Ytolfnlamknmeaaa.MDiffGreatest
