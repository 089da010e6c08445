/- DiffShifts: what the law's own function does, step by step, at every system that the made problem may give. -/
import Derived.Test.YtolfnlamknmeaaaMDiffShiftsx
import Derived.Outline
import Derived.OneCell
namespace Go.Proofs.Ytolfnlamknmeaaa.MDiffShifts
open Go.RowKit Go.Proofs.YtolfnlamknmeaaaW.PrintWords Go.Proofs.YtolfnlamknmeaaaW.PrintLast Go.Proofs.YtolfnlamknmeaaaW.PrintMore
attribute [local go_sem] max2_int min2_int max_two min_two max_three min_three max_four min_four
set_option linter.unusedVariables false
set_option linter.unusedSimpArgs false
theorem interleavelaw32_DiffShifts.stepx (f : Int → Int) (x : List Int) (i : Nat) (hi : i < x.length) : rd ((x.take i).map f ++ x.drop i) (i : Int) = rd x (i : Int) ∧ (((x.take i).map f ++ x.drop i).set i (f (rd x (i : Int)))) = (x.take (i + 1)).map f ++ x.drop (i + 1) := by
  have hl : ((x.take i).map f).length = i := by simp; omega
  have hr : rd x (i : Int) = x[i] := by unfold rd; rw [Int.toNat_natCast, List.getD_eq_getElem?_getD, List.getElem?_eq_getElem hi]; rfl
  refine ⟨?_, ?_⟩
  · unfold rd
    rw [Int.toNat_natCast, List.getD_eq_getElem?_getD, List.getD_eq_getElem?_getD, List.getElem?_append_right (by omega), hl, Nat.sub_self, List.getElem?_drop, Nat.add_zero]
  · rw [List.set_append_right _ _ (by omega), hl, Nat.sub_self, List.drop_eq_getElem_cons hi, List.set_cons_zero, hr, List.take_succ_eq_append_getElem hi, List.map_append, List.append_assoc]
    rfl
set_option maxHeartbeats 8000000 in
set_option maxRecDepth 100000 in
theorem interleavelaw32_DiffShifts.calls (w : World) (s0 s1 s2 : Int) (A : Option Addr) (c : Nat) (L0 : List Int) (K : Int) (hK : -2147483648 ≤ K ∧ K ≤ 2147483647) (H : ∀ (n : Nat) (l : List S36), 2 ≤ n ∧ n ≤ 6 → l.length ≤ 52 → (∀ d ∈ l, interleavelaw32_system.okL n d) → ∃ (k : Nat) (x cy : List Int) (ok : Bool), diff_Solve.f k (n : Int) l = some (x, cy, ok) ∧ interleavelaw32_awake.f k = some true ∧ (ok = true → x.length = n ∧ diff_Holds.f l (x.map (fun v => wrap64 (v + K))) = some true)) (hr : Kd.C (Kd.int .u8) w A L0.length L0) (hc : L0.length ≤ c) (h0 : 0 ≤ s0 ∧ s0 ≤ 255) (h1 : 0 ≤ s1 ∧ s1 ≤ 255) (h2 : 0 ≤ s2 ∧ s2 ≤ 255) (hu : ∀ x ∈ L0, 0 ≤ x ∧ x ≤ 255) :
    Calls Try.prog 10 #[.agg #[.int .u8 s0, .int .u8 s1, .int .u8 s2, .slice A L0.length c], .int .i32 K] w fun e w' => e = .returned (.bool true) ∧ Below w.heap.size w w' := by
  have hu32 := Try.underlying32
  have HU := Aside0.mk hu
  have HR := Aside0.mk hr
  have HH := Aside0.mk H
  clear hr hu H
  go_enter Try.func10, Try.ntmps10
  go_wp2_with fail
  refine (interleavelaw32_system.calls (w.alloc _) s0 s1 s2 A c L0 (Kd.C_below HR.out (below_alloc (Below.refl _ _) _)) hc h0 h1 h2 HU.out).mono ?_
  rintro e w1 ⟨n0, vl, l, rfl, HRl, hn, hll, hl, HB1⟩
  obtain ⟨n, rfl⟩ : ∃ n : Nat, n0 = (n : Int) := ⟨n0.toNat, by omega⟩
  obtain ⟨k, x, cy, ok, hs, ha, hp⟩ := HH.out n l (by omega) hll hl
  obtain ⟨A1, c1, rfl⟩ := Kd.R_slice HRl
  have HC := Aside0.mk (Kd.R_reads' HRl).2
  have HBw := Aside0.mk (below_step (below_alloc (Below.refl w.heap.size w) (.cells #[.int .u8 s0, .int .u8 s1, .int .u8 s2, .slice A L0.length c] 32)) HB1)
  clear HRl HB1 HU HR HH
  have HHA := Aside0.mk ha
  have HP := Aside0.mk hp
  have HS := Aside0.mk hs
  clear hl hs ha hp
  go_wp2_with fail
  refine (diff_Solve.calls k (n : Int) A1 c1 l x cy ok w1 HC.out.2 HC.out.1 HS.out).mono ?_
  rintro e w2 ⟨v0, v1, rfl, HX, _, HB2⟩
  have HX2 := Aside0.mk (Kd.R_mono HX (fun _ _ => trivial) : Kd.R (Kd.int .i64) 3 w2 w1.heap.size (fun _ => True) v0 x)
  have HB := Aside0.mk HB2
  clear HX HB2
  cases ok with
  | false =>
    go_wp2_with fail
    refine (interleavelaw32_awake.calls k true w2 HHA.out).mono ?_
    rintro e w3 ⟨rfl, HB3⟩
    have HB4 := Aside0.mk (below_step HBw.out (below_step HB.out HB3))
    clear HB3
    go_wp2
    go_ret
    exact ⟨rfl, HB4.out⟩
  | true =>
    have hxn := (HP.out rfl).1
    have HHo := Aside0.mk (HP.out rfl).2
    obtain ⟨ad, cx, rfl⟩ := Kd.R_slice1 HX2.out (by omega)
    obtain ⟨gx, rfl⟩ := Kd.R_head HX2.out
    have hgx := Aside0.mk (Kd.R_base HX2.out gx rfl)
    rw [hxn] at HX2
    rw [hxn]
    have HXN := Aside0.mk hxn
    clear hxn HP
    have hwK : wrap64 K = K := by unfold wrap64; omega
    go_wp2_with fail
    obtain ⟨F, hF⟩ : ∃ F : Int → Int, F = fun v => wrap64 (v + K) := ⟨_, rfl⟩
    rw [← hF] at HHo
    have HFF := Aside0.mk hF
    clear hF
    go_loopw [28] (fun v28 wr => ∃ (i : Nat), v28 = .int .i64 (i : Int) ∧ i ≤ n ∧ Aside0 (Kd.R (Kd.int .i64) 3 wr w1.heap.size (fun _ => True) (.slice (some ⟨gx, 0, none⟩) n cx) ((x.take i).map F ++ x.drop i)) ∧ Aside0 (Below w1.heap.size w1 wr)) (fun v28 _ => n - (intOf v28).toNat)
    case atStart => exact ⟨0, rfl, by omega, by simpa using HX2, HB⟩
    case round =>
      clear HX2 HB
      obtain ⟨i, rfl, hi, HX, HB⟩ := hrel
      by_cases hlt : i < n
      · have hlt' : ((i : Int) < (n : Int)) = True := eq_true (by omega)
        obtain ⟨hc1, hf1⟩ := Kd.R_celln 0 HX.out (i : Int) (by omega) (by omega)
        obtain ⟨e1, e2⟩ := interleavelaw32_DiffShifts.stepx F x i (by have := HXN.out; omega)
        have hc2 : wr.cell? ⟨gx, i, none⟩ = some (.int .i64 (rd x (i : Int))) := by
          rw [← e1]; exact hc1
        have hf2 : wr.frozen? ⟨gx, i, none⟩ = false := hf1
        have HP := Aside0.mk (Kd.R_putn HX.out (i : Int) (F (rd x (i : Int))))
        rw [Int.toNat_natCast, e2] at HP
        have HB5 : Aside0 (Below w1.heap.size w1 (wr.setCell ⟨gx, i, none⟩ (.int .i64 (F (rd x (i : Int)))))) := ⟨below_set HB.out hgx.out⟩
        have hFx : F (rd x (i : Int)) = wrap64 (rd x (i : Int) + K) := by rw [HFF.out]
        rw [hFx] at HP HB5
        clear hc1 hf1 e1 e2 hFx
        have hib : ((i : Int) < (n : Int)) = True := hlt'
        have hi0 : (0 ≤ (i : Int)) = True := eq_true (by omega)
        have hltn : (i < n) = True := eq_true hlt
        go_wp2_with fail
        go_roundw
        case rel => exact ⟨i + 1, rfl, by omega, HP, HB5⟩
        case measure => simp [intOf]; omega
      · have hlt' : ((i : Int) < (n : Int)) = False := eq_false (by omega)
        obtain ⟨y, hy⟩ : ∃ y, y = (x.take i).map F ++ x.drop i := ⟨_, rfl⟩
        have hye : y = x.map F := by
          have := HXN.out
          rw [hy, List.take_of_length_le (by omega), List.drop_eq_nil_of_le (by omega), List.append_nil]
        rw [← hy] at HX
        rw [← hye] at HHo
        obtain rfl : n = y.length := by rw [hye, List.length_map]; exact HXN.out.symm
        clear hy hye
        have HXc := Aside0.mk (Kd.R_reads' HX.out).2
        go_wp2_with fail
        refine (diff_Holds.calls A1 c1 l _ cx y true wr (Kd.C_below HC.out.2 HB.out) HC.out.1 HXc.out.2 HXc.out.1 HHo.out).mono ?_
        rintro e w5 ⟨rfl, HB5⟩
        have HB6 := Aside0.mk (below_step HB.out HB5)
        clear HB5
        go_wp2_with fail
        refine (interleavelaw32_awake.calls k true w5 HHA.out).mono ?_
        rintro e w6 ⟨rfl, HB7⟩
        have HB8 := Aside0.mk (below_step HBw.out (below_step HB6.out HB7))
        clear HB7
        go_wp2
        go_ret
        exact ⟨rfl, HB8.out⟩


end Go.Proofs.Ytolfnlamknmeaaa.MDiffShifts
