/- DiffHolds: the given statement, out of its plain proof and the printed walk of its function. -/
import Derived.Test.YtolfnlamknmeaaaRows
import Derived.Test.YtolfnlamknmeaaaMDiffHoldsx5
import Derived.Test.YtolfnlamknmeaaaPureDiffHolds
import Derived.Test.YtolfnlamknmeaaaOp
import Derived.WalkKit
import Derived.ProofKit
import Derived.OpenShut
import Derived.ShutString
import Derived.ChangeOld
import Derived.Below
import Derived.SizedLaws
namespace Go.Proofs.Ytolfnlamknmeaaa.diffHolds
open Go.ChangeShapes Go.WideShapes Go.ChangeAt Go.RowKit Go.Proofs.Ytolfnlamknmeaaa.MDiffHolds Go.Proofs.YtolfnlamknmeaaaW.PrintWords Go.Proofs.Ytolfnlamknmeaaa.Op
open Go.ChangeMaps (open_string shut_string)
set_option linter.unusedVariables false
set_option linter.unusedSimpArgs false
theorem own : ownKnob Try.prog.godebug = none := by kernel_rfl
theorem laidOut : laidOutB Try.prog = true := by kernel_rfl
theorem open_st36 {H : Type} {enc : TypeId × Value → H} {W : World} {base : Nat} {spare : Nat → Bool} {held : Bool} (n : Nat) (cs : List Value) (y : DataW H × List MemPlace) (h : DataW.trod enc Try.prog W base spare held n 36 cs = some y) : ∃ z : S36, k36.K W z cs ∧ ((Lit.int .i64 z.f0).wf = true ∧ (Lit.int .i64 z.f1).wf = true ∧ (Lit.int .i64 z.f2).wf = true) := by
  obtain ⟨xs, n', _, _, hcl, hxl, hf⟩ := DataW.trod_struct Try.underlying36 h
  replace hcl : cs.length = 3 := hcl.trans (by kernel_rfl)
  replace hxl : xs.length = 3 := hxl
  match cs, hcl with
  | [c0, c1, c2], _ =>
    have h0 : DataW.trod enc Try.prog W base spare held n' 3 ((([c0, c1, c2] : List Value).drop 0).take (Try.prog.cellsOf 3)) = xs[0]? := hf 0 _ rfl
    rw [show Try.prog.cellsOf 3 = 1 from by kernel_rfl, List.getElem?_eq_getElem (by omega)] at h0
    replace h0 : DataW.trod enc Try.prog W base spare held n' 3 [c0] = some _ := h0
    have h1 : DataW.trod enc Try.prog W base spare held n' 3 ((([c0, c1, c2] : List Value).drop 1).take (Try.prog.cellsOf 3)) = xs[1]? := hf 1 _ rfl
    rw [show Try.prog.cellsOf 3 = 1 from by kernel_rfl, List.getElem?_eq_getElem (by omega)] at h1
    replace h1 : DataW.trod enc Try.prog W base spare held n' 3 [c1] = some _ := h1
    have h2 : DataW.trod enc Try.prog W base spare held n' 3 ((([c0, c1, c2] : List Value).drop 2).take (Try.prog.cellsOf 3)) = xs[2]? := hf 2 _ rfl
    rw [show Try.prog.cellsOf 3 = 1 from by kernel_rfl, List.getElem?_eq_getElem (by omega)] at h2
    replace h2 : DataW.trod enc Try.prog W base spare held n' 3 [c2] = some _ := h2
    obtain ⟨v0, e0, _, w0⟩ := DataW.trod_int Try.underlying3 h0
    obtain rfl : c0 = .int .i64 v0 := by simpa using e0
    obtain ⟨v1, e1, _, w1⟩ := DataW.trod_int Try.underlying3 h1
    obtain rfl : c1 = .int .i64 v1 := by simpa using e1
    obtain ⟨v2, e2, _, w2⟩ := DataW.trod_int Try.underlying3 h2
    obtain rfl : c2 = .int .i64 v2 := by simpa using e2
    exact ⟨⟨v0, v1, v2⟩, k36_mk W ⟨v0, v1, v2⟩, ⟨w0, w1, w2⟩⟩
set_option maxRecDepth 100000 in
theorem lifted (os : Os) (started : os.Started) (H : Type) (enc : TypeId × Value → H) :
    ReturnsInHanded {} Try.checked os 8 .any (Rows.diffHoldsSpec.pre6 enc Try.prog Try.f8 Rows.diffHoldsRow.domain false) (Rows.diffHoldsSpec.post enc Try.prog Try.f8 false true false false) := by
  refine returnsInHanded_of_change_sized (C := Try.checked) own started (by kernel_rfl) Try.func8
    (ChangeSpec.witness6 (enc := enc) (C := Try.checked) false ⟨#[], #[.slice none 0 0, .slice none 0 0], []⟩ 8 (by kernel_rfl) (by kernel_rfl) (by kernel_rfl) (by kernel_rfl)) ?_
  intro W base args ds gs before hval0 hW hcnd hsz0 _
  have hsz : (DataW.weightsEach Try.prog (Try.f8.params.toList ++ Rows.diffHoldsSpec.plain.varTypes Try.prog) (ds ++ gs)).all (· ≤ reachBytes) = true := hsz0
  have hval : ∀ (j : Nat) t v, Try.f8.params[j]? = some t → args[j]? = some v → Value.okWide Try.prog W .any base t v := hval0
  have hW' := hW
  obtain ⟨p, q, hA0, hV, rfl, hfz, hnd⟩ := hW
  have hA : DataW.TrodAll enc Try.prog W 0 (fun _ => true) true Try.f8.params.toList args.toList ds p := hA0
  rw [Try.params8] at hA hval hsz
  obtain ⟨v0, vs0, d0, ds0, p0, q0, hargs, rfl, rfl, h0, r0⟩ := trodAll_cons hA
  obtain ⟨v1, vs1, d1, ds1, p1, q1, rfl, rfl, rfl, h1, r1⟩ := trodAll_cons r0
  obtain ⟨rfl, rfl, rfl⟩ := trodAll_nil r1
  obtain rfl : args = #[v0, v1] := by cases args; simp_all
  obtain ⟨rfl, rfl⟩ := trodVars_none hV
  obtain ⟨A0, len0, cap0, rfl⟩ := okWide_slice Try.underlying22 (hval 0 22 v0 rfl rfl)
  have k0_ := h0
  have lt0 : ∀ x ∈ p0, x.block < W.heap.size := by obtain ⟨m, hm⟩ := k0_; exact DataW.trod_lt m _ _ _ hm
  obtain ⟨l0, hr0, hlen0, hc0, hg0⟩ := open_row (d := k36) (G := fun x => ((Lit.int .i64 x.f0).wf = true ∧ (Lit.int .i64 x.f1).wf = true ∧ (Lit.int .i64 x.f2).wf = true)) Try.underlying22 (by kernel_rfl) open_st36 h0
  have y0 : len0 * 24 ≤ 140737488351232 := sized_row hsz (j := 0) (t := 22) rfl rfl Try.underlying22 (by kernel_rfl) h0
  subst hlen0
  obtain ⟨A1, len1, cap1, rfl⟩ := okWide_slice Try.underlying25 (hval 1 25 v1 rfl rfl)
  have k1_ := h1
  have lt1 : ∀ x ∈ p1, x.block < W.heap.size := by obtain ⟨m, hm⟩ := k1_; exact DataW.trod_lt m _ _ _ hm
  obtain ⟨l1, hr1, hlen1, hc1, hg1⟩ := open_row (d := (Kd.int .i64)) (G := fun x => (Lit.int .i64 x).wf = true) Try.underlying25 (by kernel_rfl) (fun n cs y h => by obtain ⟨z, rfl, _, hw⟩ := DataW.trod_int Try.underlying3 h; exact ⟨z, rfl, hw⟩) h1
  have y1 : len1 * 8 ≤ 140737488351232 := sized_row hsz (j := 1) (t := 25) rfl rfl Try.underlying25 (by kernel_rfl) h1
  subst hlen1
  clear hA0 hval0 hsz0 hsz
  obtain ⟨k, hk⟩ := Pure.DiffHolds l0 l1 y0 hg0 y1 hg1
  refine (interleavelaw32_DiffHolds.calls k _ _ l0 _ _ l1 true W hr0 hc0 hr1 hc1 hk).mono fun e W' ⟨he, bel⟩ => ?_
  subst he
  exact ⟨_, rfl, _, _, _, [], _, [], hW', trodAll_mk1 (shut_bool Try.underlying4 _), (trodAll_cons_mk (Below.trod laidOut (by kernel_rfl) (of_decide_eq_true (by kernel_rfl)) k0_ bel lt0) (trodAll_cons_mk (Below.trod laidOut (by kernel_rfl) (of_decide_eq_true (by kernel_rfl)) k1_ bel lt1) trodAll_mk0)), rfl, bel.frame _, fun h => by cases h⟩
theorem over : Rows.diffHoldsRow.holds Try.pinned (OpenSpec.ofChange Rows.diffHoldsSpec) :=
  OpenClaim.holds_of_wide 8 Try.f8 rfl rfl rfl rfl rfl rfl rfl ⟨rfl, rfl, rfl, rfl, rfl⟩ rfl rfl rfl rfl rfl (by kernel_rfl) Try.func8 (by kernel_rfl)
    (of_decide_eq_true (by kernel_rfl)) (by unfold Func.isWrapper; first | (rw [if_pos (by decide +kernel)]; kernel_rfl) | (rw [if_neg (by decide +kernel)]; exact ⟨rfl, rfl⟩))
    (fun os started H enc _ => lifted os started H enc)
theorem proved : Rows.DiffHoldsSaid := over
#print axioms proved
end Go.Proofs.Ytolfnlamknmeaaa.diffHolds
namespace Go.Proofs.Ytolfnlamknmeaaa
/-- The row, under a short name, for the claim. -/
theorem diffHolds_holds : Rows.DiffHoldsSaid := diffHolds.proved
end Go.Proofs.Ytolfnlamknmeaaa
