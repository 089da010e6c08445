/- DiffSystems: what the law's own function does, step by step, at every system that the made problem may give. -/
import Derived.Test.YtolfnlamknmeaaaMDiffSystemsx
import Derived.Outline
import Derived.OneCell
namespace Go.Proofs.Ytolfnlamknmeaaa.MDiffSystems
open Go.RowKit Go.Proofs.YtolfnlamknmeaaaW.PrintWords Go.Proofs.YtolfnlamknmeaaaW.PrintLast Go.Proofs.YtolfnlamknmeaaaW.PrintMore
attribute [local go_sem] max2_int min2_int max_two min_two max_three min_three max_four min_four
set_option linter.unusedVariables false
set_option linter.unusedSimpArgs false
theorem interleavelaw32_DiffSystems.eq36 (w : World) (x y z : Int) : (Op.equalIn 10000 36 (.agg #[.int .i64 x, .int .i64 y, .int .i64 z]) (.agg #[.int .i64 x, .int .i64 y, .int .i64 z])).run Try.prog w = .ok true w := by
  show (Op.equalIn (9999 + 1) 36 _ _).run Try.prog w = .ok (true && (true && true)) w
  refine eqA_of Try.underlying36 (by kernel_rfl) ?_
  refine eqf_cons (by rfl) (by go_simp; rfl) (by go_simp; rfl) (by go_simp) ?_
  refine eqf_cons (by rfl) (by go_simp; rfl) (by go_simp; rfl) (by go_simp) ?_
  exact eqf_last (by rfl) (by go_simp; rfl) (by go_simp; rfl) (by go_simp)
set_option maxHeartbeats 8000000 in
set_option maxRecDepth 100000 in
theorem interleavelaw32_DiffSystems.calls (w : World) (s0 s1 s2 : Int) (A : Option Addr) (c : Nat) (L0 : List Int)  (H : ∀ (n : Nat) (l : List S36), 2 ≤ n ∧ n ≤ 6 → l.length ≤ 52 → (∀ d ∈ l, interleavelaw32_system.okL n d) → ∃ (k : Nat) (x cy : List Int) (ok : Bool), diff_Solve.f k (n : Int) l = some (x, cy, ok) ∧ interleavelaw32_right.f k (n : Int) l x cy ok = some true ∧ interleavelaw32_awake.f k = some true) (hr : Kd.C (Kd.int .u8) w A L0.length L0) (hc : L0.length ≤ c) (h0 : 0 ≤ s0 ∧ s0 ≤ 255) (h1 : 0 ≤ s1 ∧ s1 ≤ 255) (h2 : 0 ≤ s2 ∧ s2 ≤ 255) (hu : ∀ x ∈ L0, 0 ≤ x ∧ x ≤ 255) :
    Calls Try.prog 4 #[.agg #[.int .u8 s0, .int .u8 s1, .int .u8 s2, .slice A L0.length c]] w fun e w' => e = .returned (.bool true) ∧ Below w.heap.size w w' := by
  have hu32 := Try.underlying32
  have HU := Aside0.mk hu
  have HR := Aside0.mk hr
  have HH := Aside0.mk H
  clear hr hu H
  go_enter Try.func4, Try.ntmps4
  go_wp2_with fail
  refine (interleavelaw32_system.calls (w.alloc _) s0 s1 s2 A c L0 (Kd.C_below HR.out (below_alloc (Below.refl _ _) _)) hc h0 h1 h2 HU.out).mono ?_
  rintro e w1 ⟨n0, vl, l, rfl, HRl, hn, hll, hl, HB1⟩
  obtain ⟨n, rfl⟩ : ∃ n : Nat, n0 = (n : Int) := ⟨n0.toNat, by omega⟩
  obtain ⟨k, x, cy, ok, hs, hrt, ha⟩ := HH.out n l (by omega) hll hl
  have HRL := Aside0.mk HRl
  obtain ⟨A1, c1, rfl⟩ := Kd.R_slice HRL.out
  have HC := Aside0.mk (Kd.R_reads' HRl).2
  have HBw := Aside0.mk (below_step (below_alloc (Below.refl w.heap.size w) (.cells #[.int .u8 s0, .int .u8 s1, .int .u8 s2, .slice A L0.length c] 32)) HB1)
  clear HRl HB1 HU HR HH
  have HS := Aside0.mk hs
  have HT := Aside0.mk hrt
  have HHA := Aside0.mk ha
  have h36 := interleavelaw32_DiffSystems.eq36
  clear hl hs hrt ha
  go_wp2_with (first | ((with_reducible refine gate_builtin (b := .append) (xs := #[.const (.slice none 0 0), .tmp 15]) rfl ?_); at_builtin; refine Kd.R_append_rows k36 (w0 := w1) w1.heap.size rfl (.const (.slice none 0 0)) (.tmp 15) 22 36 (.agg #[(.int .i64 0), (.int .i64 0), (.int .i64 0)]) 24 rfl Try.underlying22 info36 rfl (by decide) (by omega) (.slice none 0 0) ([] : List (S36)) l _ _ _ (fun _ => True) (fun _ => False) rfl rfl ?aO ?aR (fun _ _ h => h) (fun _ h => h.elim) (fun _ _ => trivial) ?aB ?aS ?aL ?_; (case aO => exact Kd.R_nil _ _ _ _ _); (case aR => exact HC.out.2); (case aB => exact Below.refl _ _); (case aS => exact Nat.le_refl _); (case aL => simp only [List.length_nil]; omega); intro v5 w2 ho hb2 hg2 hat2; rw [List.nil_append] at ho; have HW := Aside0.mk ho; have HB := Aside0.mk hb2; clear ho hb2 hg2 hat2))
  refine (diff_Solve.calls k (n : Int) A1 c1 l x cy ok w2 (Kd.C_below HC.out.2 HB.out) HC.out.1 HS.out).mono ?_
  rintro e w3 ⟨v0, v1, rfl, HX, HY, HB2⟩
  have HB3 := Aside0.mk (below_step HB.out HB2)
  have HW3 := Aside0.mk (Kd.R_below HW.out HB2)
  obtain ⟨A2, c2, rfl⟩ := Kd.R_slice HX
  obtain ⟨A3, c3, rfl⟩ := Kd.R_slice HY
  have HX2 := Aside0.mk (Kd.R_reads' HX).2
  have HY2 := Aside0.mk (Kd.R_reads' HY).2
  clear HX HY HB2 HB HW
  go_wp2_with fail
  refine (interleavelaw32_right.calls k (n : Int) A1 c1 l A2 c2 x A3 c3 cy ok true w3 (Kd.C_below HC.out.2 HB3.out) HC.out.1 HX2.out.2 HX2.out.1 HY2.out.2 HY2.out.1 HT.out).mono ?_
  rintro e w4 ⟨rfl, HB4⟩
  have HB := Aside0.mk (below_step HB3.out HB4)
  have HW := Aside0.mk (Kd.R_below HW3.out HB4)
  clear HB4 HB3 HW3 HX2 HY2
  obtain ⟨nl, hnl⟩ : ∃ q : Nat, q = l.length := ⟨_, rfl⟩
  obtain ⟨A5, c5, rfl⟩ := Kd.R_slice HW.out
  rw [← hnl] at HRL HC HW
  rw [← hnl]
  have HNL := Aside0.mk hnl
  have hnl52 : nl ≤ 52 := by omega
  clear hnl
  go_wp2_with fail
  go_loopw [33] (fun v33 wr => ∃ (i : Nat), v33 = .int .i64 (i : Int) ∧ i ≤ nl ∧ Aside0 (Kd.R k36 36 wr w1.heap.size (fun _ => True) (.slice A5 nl c5) l) ∧ Aside0 (Below w1.heap.size w1 wr)) (fun v33 _ => nl - (intOf v33).toNat)
  case atStart => exact ⟨0, rfl, by omega, HW, HB⟩
  case round =>
    clear HW HB
    obtain ⟨i, rfl, hi, HW, HB⟩ := hrel
    by_cases hlt : i < nl
    · have hlt' : ((i : Int) < (nl : Int)) = True := eq_true (by omega)
      obtain ⟨ad5, cq, ec⟩ := Kd.R_slice1 HW.out (by have := HNL.out; omega)
      injection ec with ea eb ecc
      subst ea
      clear eb ecc cq
      obtain ⟨g5, rfl⟩ := Kd.R_head HW.out
      obtain ⟨ad1, cq, ec⟩ := Kd.R_slice1 HRL.out (by have := HNL.out; omega)
      injection ec with ea eb ecc
      subst ea
      clear eb ecc cq
      obtain ⟨g1, rfl⟩ := Kd.R_head HRL.out
      have hC5 := (Kd.R_reads' HW.out).2.2
      have hC1 := Kd.C_below (Kd.R_reads' HRL.out).2.2 HB.out
      obtain ⟨_, e1, p0, p1, p2⟩ := at_T36 hC1 (i : Int) (by omega) (by have := HNL.out; omega)
      injection e1 with e1
      subst e1
      obtain ⟨_, e5, q0, q1, q2⟩ := at_T36 hC5 (i : Int) (by omega) (by have := HNL.out; omega)
      injection e5 with e5
      subst e5
      obtain ⟨dd, hdd⟩ : ∃ dd, dd = rd_T36 l (i : Int) := ⟨_, rfl⟩
      rw [← hdd] at p0 p1 p2 q0 q1 q2
      clear hdd hC5 hC1
      obtain ⟨X, Y, C⟩ := dd
      have P0 : wr.cell? ⟨g1, i * 3, none⟩ = some (.int .i64 X) := by have h := p0; simpa [Addr.add_lit] using h
      have P1 : wr.cell? ⟨g1, i * 3 + 1, none⟩ = some (.int .i64 Y) := by have h := p1; simpa [Addr.add_lit] using h
      have P2 : wr.cell? ⟨g1, i * 3 + 2, none⟩ = some (.int .i64 C) := by have h := p2; simpa [Addr.add_lit] using h
      have Q0 : wr.cell? ⟨g5, i * 3, none⟩ = some (.int .i64 X) := by have h := q0; simpa [Addr.add_lit] using h
      have Q1 : wr.cell? ⟨g5, i * 3 + 1, none⟩ = some (.int .i64 Y) := by have h := q1; simpa [Addr.add_lit] using h
      have Q2 : wr.cell? ⟨g5, i * 3 + 2, none⟩ = some (.int .i64 C) := by have h := q2; simpa [Addr.add_lit] using h
      have hltn : (i < nl) = True := eq_true hlt
      clear p0 p1 p2 q0 q1 q2
      go_wp2_with fail
      refine start_ (n := 9) (S := fun w' => w'.cell? ⟨g1, i * 3, none⟩ = some (.int .i64 X) ∧ w'.cell? ⟨g1, i * 3 + 1, none⟩ = some (.int .i64 Y) ∧ w'.cell? ⟨g1, i * 3 + 2, none⟩ = some (.int .i64 C) ∧ w'.cell? ⟨g5, i * 3, none⟩ = some (.int .i64 X) ∧ w'.cell? ⟨g5, i * 3 + 1, none⟩ = some (.int .i64 Y) ∧ w'.cell? ⟨g5, i * 3 + 2, none⟩ = some (.int .i64 C) ∧ Aside0 (Below wr.heap.size wr w')) (ds := []) #[false, false, false, false, false, false, false, false, false] (by kernel_rfl) rfl rfl ⟨P0, P1, P2, Q0, Q1, Q2, ⟨below_drew (Below.refl _ _)⟩⟩ (fun hHeld => ?_)
      refine pure_ (i := 0) (N := some 36) (v := ?_) (a' := ?_) #[true, false, false, false, false, false, false, false, false] rfl rfl (by kernel_rfl) (fun _ _ _ h => h) (Or.inl ⟨by rfl, ?_⟩) ?_ ?_
      rotate_left
      · intro w'
        go_simp
        with_reducible rfl
      rotate_left
      · simp only [Act.put, List.setIfInBounds_toArray, List.set_cons_zero, List.set_cons_succ, i64_w, i32_w]
        rfl
      refine pure_ (i := 1) (N := some 37) (v := ?_) (a' := ?_) #[true, true, false, false, false, false, false, false, false] rfl rfl (by kernel_rfl) (fun _ _ _ h => h) (Or.inl ⟨by rfl, ?_⟩) ?_ ?_
      rotate_left
      · intro w'
        go_simp
        with_reducible rfl
      rotate_left
      · simp only [Act.put, List.setIfInBounds_toArray, List.set_cons_zero, List.set_cons_succ, i64_w, i32_w]
        rfl
      refine pure_ (i := 2) (N := some 38) (v := ?_) (a' := ?_) #[true, true, true, false, false, false, false, false, false] rfl rfl (by kernel_rfl) (fun _ _ _ h => h) (Or.inl ⟨by rfl, ?_⟩) ?_ ?_
      rotate_left
      · intro w'
        go_simp
        with_reducible rfl
      rotate_left
      · simp only [Act.put, List.setIfInBounds_toArray, List.set_cons_zero, List.set_cons_succ, i64_w, i32_w]
        rfl
      refine pure_ (i := 4) (N := some 40) (v := ?_) (a' := ?_) #[true, true, true, false, true, false, false, false, false] rfl rfl (by kernel_rfl) (fun _ _ _ h => h) (Or.inl ⟨by rfl, ?_⟩) ?_ ?_
      rotate_left
      · intro w'
        go_simp
        with_reducible rfl
      rotate_left
      · simp only [Act.put, List.setIfInBounds_toArray, List.set_cons_zero, List.set_cons_succ, i64_w, i32_w]
        rfl
      refine pure_ (i := 5) (N := some 41) (v := ?_) (a' := ?_) #[true, true, true, false, true, true, false, false, false] rfl rfl (by kernel_rfl) (fun _ _ _ h => h) (Or.inl ⟨by rfl, ?_⟩) ?_ ?_
      rotate_left
      · intro w'
        go_simp
        with_reducible rfl
      rotate_left
      · simp only [Act.put, List.setIfInBounds_toArray, List.set_cons_zero, List.set_cons_succ, i64_w, i32_w]
        rfl
      refine pure_ (i := 6) (N := some 42) (v := ?_) (a' := ?_) #[true, true, true, false, true, true, true, false, false] rfl rfl (by kernel_rfl) (fun _ _ _ h => h) (Or.inl ⟨by rfl, ?_⟩) ?_ ?_
      rotate_left
      · intro w'
        go_simp
        with_reducible rfl
      rotate_left
      · simp only [Act.put, List.setIfInBounds_toArray, List.set_cons_zero, List.set_cons_succ, i64_w, i32_w]
        rfl
      refine take_ (i := 3) (N := some 39) (v := ?_) (a' := ?_) #[true, true, true, true, true, true, true, false, false] rfl rfl (by kernel_rfl) (fun _ _ _ h => h) (Or.inl ⟨by rfl, ?_⟩) hHeld ?_ ?_
      rotate_left
      · rintro w' ⟨s0, s1, s2, s3, s4, s5, s6⟩
        go_simp
        with_reducible rfl
      rotate_left
      · simp only [Act.put, List.setIfInBounds_toArray, List.set_cons_zero, List.set_cons_succ, i64_w, i32_w]
        rfl
      refine take_ (i := 7) (N := some 43) (v := ?_) (a' := ?_) #[true, true, true, true, true, true, true, true, false] rfl rfl (by kernel_rfl) (fun _ _ _ h => h) (Or.inl ⟨by rfl, ?_⟩) hHeld ?_ ?_
      rotate_left
      · rintro w' ⟨s0, s1, s2, s3, s4, s5, s6⟩
        go_simp
        with_reducible rfl
      rotate_left
      · simp only [Act.put, List.setIfInBounds_toArray, List.set_cons_zero, List.set_cons_succ, i64_w, i32_w]
        rfl
      refine pure_ (i := 8) (N := some 44) (v := ?_) (a' := ?_) #[true, true, true, true, true, true, true, true, true] rfl rfl (by kernel_rfl) (fun _ _ _ h => h) (Or.inl ⟨by rfl, ?_⟩) ?_ ?_
      rotate_left
      · intro w'
        go_simp
        with_reducible rfl
      rotate_left
      · simp only [Act.put, List.setIfInBounds_toArray, List.set_cons_zero, List.set_cons_succ, i64_w, i32_w]
        rfl
      refine done_ (by kernel_rfl) ?_
      go_wp2_with fail
      go_roundw
      case rel => exact ⟨i + 1, rfl, by omega, ⟨Kd.R_drew HW.out⟩, ⟨below_drew HB.out⟩⟩
      case measure => simp [intOf]; omega
    · have hlt' : ((i : Int) < (nl : Int)) = False := eq_false (by omega)
      go_wp2_with fail
      refine (interleavelaw32_awake.calls k true wr HHA.out).mono ?_
      rintro e w6 ⟨rfl, HB7⟩
      have HB8 := Aside0.mk (below_step HBw.out (below_step HB.out HB7))
      clear HB7
      go_wp2
      go_ret
      exact ⟨rfl, HB8.out⟩


end Go.Proofs.Ytolfnlamknmeaaa.MDiffSystems
