/- EvalSubstitutes: the given statement, out of its plain proof and the printed walk of its function. -/
import Derived.Test.YtgoefoilghjfhaaRows
import Derived.Test.YtgoefoilghjfhaaWalkEvalSubstitutes
import Derived.Test.YtgoefoilghjfhaaPureEvalSubstitutes
import Derived.Test.YtgoefoilghjfhaaOp
import Derived.WalkKit
import Derived.ProofKit
import Derived.OpenShut
import Derived.ShutString
import Derived.ChangeOld
import Derived.Below
import Derived.SizedLaws
namespace Go.Proofs.Ytgoefoilghjfhaa.evalSubstitutes
open Go.ChangeShapes Go.WideShapes Go.ChangeAt Go.RowKit Go.Proofs.Ytgoefoilghjfhaa.MEvalSubstitutes Go.Proofs.YtgoefoilghjfhaaW.PrintWords Go.Proofs.Ytgoefoilghjfhaa.Op
open Go.ChangeMaps (open_string shut_string)
set_option linter.unusedVariables false
set_option linter.unusedSimpArgs false
theorem own : ownKnob Try.prog.godebug = none := by kernel_rfl
theorem laidOut : laidOutB Try.prog = true := by kernel_rfl
set_option maxRecDepth 100000 in
theorem lifted (os : Os) (started : os.Started) (H : Type) (enc : TypeId × Value → H) :
    ReturnsInHanded {} Try.checked os 9 .any (Rows.evalSubstitutesSpec.pre6 enc Try.prog Try.f9 Rows.evalSubstitutesRow.domain false) (Rows.evalSubstitutesSpec.post enc Try.prog Try.f9 false true false false) := by
  refine returnsInHanded_of_change_sized (C := Try.checked) own started (by kernel_rfl) Try.func9
    (ChangeSpec.witness6 (enc := enc) (C := Try.checked) false ⟨#[], #[.slice none 0 0, .slice none 0 0], []⟩ 8 (by kernel_rfl) (by kernel_rfl) (by kernel_rfl) (by kernel_rfl)) ?_
  intro W base args ds gs before hval0 hW hcnd hsz0 _
  have hsz : (DataW.weightsEach Try.prog (Try.f9.params.toList ++ Rows.evalSubstitutesSpec.plain.varTypes Try.prog) (ds ++ gs)).all (· ≤ reachBytes) = true := hsz0
  have hval : ∀ (j : Nat) t v, Try.f9.params[j]? = some t → args[j]? = some v → Value.okWide Try.prog W .any base t v := hval0
  have hW' := hW
  obtain ⟨p, q, hA0, hV, rfl, hfz, hnd⟩ := hW
  have hA : DataW.TrodAll enc Try.prog W 0 (fun _ => true) true Try.f9.params.toList args.toList ds p := hA0
  rw [Try.params9] at hA hval hsz
  obtain ⟨v0, vs0, d0, ds0, p0, q0, hargs, rfl, rfl, h0, r0⟩ := trodAll_cons hA
  obtain ⟨v1, vs1, d1, ds1, p1, q1, rfl, rfl, rfl, h1, r1⟩ := trodAll_cons r0
  obtain ⟨rfl, rfl, rfl⟩ := trodAll_nil r1
  obtain rfl : args = #[v0, v1] := by cases args; simp_all
  obtain ⟨rfl, rfl⟩ := trodVars_none hV
  obtain ⟨A0, len0, cap0, rfl⟩ := okWide_slice Try.underlying33 (hval 0 33 v0 rfl rfl)
  have k0_ := h0
  have lt0 : ∀ x ∈ p0, x.block < W.heap.size := by obtain ⟨m, hm⟩ := k0_; exact DataW.trod_lt m _ _ _ hm
  obtain ⟨l0, hr0, hlen0, hc0, hg0⟩ := open_row (d := (Kd.int .u8)) (G := fun x => (Lit.int .u8 x).wf = true) Try.underlying33 (by kernel_rfl) (fun n cs y h => by obtain ⟨z, rfl, _, hw⟩ := DataW.trod_int Try.underlying5 h; exact ⟨z, rfl, hw⟩) h0
  have y0 : len0 * 1 ≤ 140737488351232 := sized_row hsz (j := 0) (t := 33) rfl rfl Try.underlying33 (by kernel_rfl) h0
  subst hlen0
  obtain ⟨A1, len1, cap1, rfl⟩ := okWide_slice Try.underlying27 (hval 1 27 v1 rfl rfl)
  have k1_ := h1
  have lt1 : ∀ x ∈ p1, x.block < W.heap.size := by obtain ⟨m, hm⟩ := k1_; exact DataW.trod_lt m _ _ _ hm
  obtain ⟨l1, hr1, hlen1, hc1, hg1⟩ := open_row (d := (Kd.int .i64)) (G := fun x => (Lit.int .i64 x).wf = true) Try.underlying27 (by kernel_rfl) (fun n cs y h => by obtain ⟨z, rfl, _, hw⟩ := DataW.trod_int Try.underlying2 h; exact ⟨z, rfl, hw⟩) h1
  have y1 : len1 * 8 ≤ 140737488351232 := sized_row hsz (j := 1) (t := 27) rfl rfl Try.underlying27 (by kernel_rfl) h1
  subst hlen1
  clear hA0 hval0 hsz0 hsz
  refine (interleavelaw05_EvalSubstitutes.calls W _ _ l0 _ _ l1 hr0 hc0 (fun x hx => bounds_u8 (hg0 x hx)) hr1 hc1 (Pure.EvalSubstitutes l1)).mono fun e W' ⟨he, bel⟩ => ?_
  subst he
  exact ⟨_, rfl, _, _, _, [], _, [], hW', trodAll_mk1 (shut_bool Try.underlying4 _), (trodAll_cons_mk (Below.trod laidOut (by kernel_rfl) (of_decide_eq_true (by kernel_rfl)) k0_ bel lt0) (trodAll_cons_mk (Below.trod laidOut (by kernel_rfl) (of_decide_eq_true (by kernel_rfl)) k1_ bel lt1) trodAll_mk0)), rfl, bel.frame _, fun h => by cases h⟩
theorem over : Rows.evalSubstitutesRow.holds Try.pinned (OpenSpec.ofChange Rows.evalSubstitutesSpec) :=
  OpenClaim.holds_of_wide 9 Try.f9 rfl rfl rfl rfl rfl rfl rfl ⟨rfl, rfl, rfl, rfl, rfl⟩ rfl rfl rfl rfl rfl (by kernel_rfl) Try.func9 (by kernel_rfl)
    (of_decide_eq_true (by kernel_rfl)) (by unfold Func.isWrapper; first | (rw [if_pos (by decide +kernel)]; kernel_rfl) | (rw [if_neg (by decide +kernel)]; exact ⟨rfl, rfl⟩))
    (fun os started H enc _ => lifted os started H enc)
theorem proved : Rows.EvalSubstitutesSaid := over
#print axioms proved
end Go.Proofs.Ytgoefoilghjfhaa.evalSubstitutes
namespace Go.Proofs.Ytgoefoilghjfhaa
/-- The row, under a short name, for the claim. -/
theorem evalSubstitutes_holds : Rows.EvalSubstitutesSaid := evalSubstitutes.proved
end Go.Proofs.Ytgoefoilghjfhaa
