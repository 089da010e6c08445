/- DiffGreatest: the given statement, out of its plain proof and the printed walk of its function. -/
import Derived.Test.YtolfnlamknmeaaaRows
import Derived.Test.YtolfnlamknmeaaaWalkDiffGreatest
import Derived.Test.YtolfnlamknmeaaaPureDiffGreatest
import Derived.Test.YtolfnlamknmeaaaOp
import Derived.WalkKit
import Derived.ProofKit
import Derived.OpenShut
import Derived.ShutString
import Derived.ChangeOld
import Derived.Below
import Derived.SizedLaws
import Derived.Laws.IdiomArrays
namespace Go.Proofs.Ytolfnlamknmeaaa.diffGreatest
open Go.ChangeShapes Go.WideShapes Go.ChangeAt Go.RowKit Go.Proofs.Ytolfnlamknmeaaa.MDiffGreatest Go.Proofs.YtolfnlamknmeaaaW.PrintWords Go.Proofs.Ytolfnlamknmeaaa.Op
open Go.ChangeMaps (open_string shut_string)
set_option linter.unusedVariables false
set_option linter.unusedSimpArgs false
theorem own : ownKnob Try.prog.godebug = none := by kernel_rfl
theorem laidOut : laidOutB Try.prog = true := by kernel_rfl
theorem u8_of {x : Int} (h : (Lit.int .u8 x).wf = true) : 0 ≤ x ∧ x ≤ 255 := by
  simp [Lit.wf, IntKind.min, IntKind.max, IntKind.signed, IntKind.bits] at h
  omega
/-- A problem that came in: three bytes and a row of bytes. -/
theorem open_prob {H : Type} {enc : TypeId × Value → H} {W : World} {b0 base : Nat} {spare : Nat → Bool} {held : Bool} {v : Value} {x : DataW H} {ps : List MemPlace} (hv : Value.okWide Try.prog W .any b0 32 v) (h : DataW.Trod enc Try.prog W base spare held 32 v x ps) :
    ∃ (s0 s1 s2 : Int) (A : Option Addr) (c : Nat) (L : List Int), v = .agg #[.int .u8 s0, .int .u8 s1, .int .u8 s2, .slice A L.length c] ∧ Kd.C (Kd.int .u8) W A L.length L ∧ L.length ≤ c ∧ (0 ≤ s0 ∧ s0 ≤ 255) ∧ (0 ≤ s1 ∧ s1 ≤ 255) ∧ (0 ≤ s2 ∧ s2 ≤ 255) ∧ ∀ x ∈ L, 0 ≤ x ∧ x ≤ 255 := by
  obtain ⟨cs, rfl, hcs⟩ := okWide_struct Try.underlying32 hv
  have hcs : cs.size = 4 := hcs.trans (by kernel_rfl)
  obtain ⟨fuel, hf⟩ := h
  replace hf : DataW.trod enc Try.prog W base spare held fuel 32 cs.toList = some (x, ps) := hf
  obtain ⟨cl, rfl⟩ : ∃ cl : List Value, cs = cl.toArray := ⟨cs.toList, by simp⟩
  have hcl : cl.length = 4 := by simpa using hcs
  clear hcs hv
  match cl, hcl with
  | [c0, c1, c2, c3], _ =>
    obtain ⟨y0, y1, n, _, _, h0, h1⟩ := trod_struct2 Try.underlying32 hf
    replace h0 : DataW.trod enc Try.prog W base spare held n 29 (([c0, c1, c2, c3].drop 0).take (Try.prog.cellsOf 29)) = some y0 := h0
    replace h1 : DataW.trod enc Try.prog W base spare held n 30 (([c0, c1, c2, c3].drop 3).take (Try.prog.cellsOf 30)) = some y1 := h1
    rw [show Try.prog.cellsOf 29 = 3 from by kernel_rfl] at h0
    rw [show Try.prog.cellsOf 30 = 1 from by kernel_rfl] at h1
    replace h0 : DataW.trod enc Try.prog W base spare held n 29 [c0, c1, c2] = some y0 := h0
    replace h1 : DataW.trod enc Try.prog W base spare held n 30 [c3] = some y1 := h1
    obtain ⟨z0, z1, z2, m, _, q0, q1, q2⟩ := trod_array3 Try.underlying29 (by kernel_rfl) h0
    obtain ⟨s0, e0, _, w0⟩ := DataW.trod_int Try.underlying5 q0
    obtain ⟨s1, e1, _, w1⟩ := DataW.trod_int Try.underlying5 q1
    obtain ⟨s2, e2, _, w2⟩ := DataW.trod_int Try.underlying5 q2
    obtain rfl : c0 = .int .u8 s0 := by simpa using e0
    obtain rfl : c1 = .int .u8 s1 := by simpa using e1
    obtain rfl : c2 = .int .u8 s2 := by simpa using e2
    obtain ⟨A, len, cap, rfl⟩ : ∃ A len cap, c3 = .slice A len cap := by
      rcases DataW.trod_slice Try.underlying30 h1 with ⟨hcs, _⟩ | ⟨ad, l, c, elems, rest, k, _, hcs, _⟩
      · exact ⟨none, 0, 0, by simpa using hcs⟩
      · exact ⟨some ad, l, c, by simpa using hcs⟩
    obtain ⟨y1, p1⟩ := y1
    obtain ⟨L, hr, hlen, hc, hg⟩ := open_row (d := Kd.int .u8) (G := fun x => 0 ≤ x ∧ x ≤ 255) Try.underlying30 (by kernel_rfl) (fun n cs y h => by obtain ⟨z, rfl, _, hw⟩ := DataW.trod_int Try.underlying5 h; exact ⟨z, rfl, u8_of hw⟩) (⟨n, h1⟩ : DataW.Trod enc Try.prog W base spare held 30 (.slice A len cap) y1 p1)
    subst hlen
    exact ⟨s0, s1, s2, A, cap, L, rfl, hr, hc, u8_of w0, u8_of w1, u8_of w2, hg⟩

set_option maxRecDepth 100000 in
theorem lifted (os : Os) (started : os.Started) (H : Type) (enc : TypeId × Value → H) :
    ReturnsInHanded {} Try.checked os 11 .any (Rows.diffGreatestSpec.pre6 enc Try.prog Try.f11 Rows.diffGreatestRow.domain false) (Rows.diffGreatestSpec.post enc Try.prog Try.f11 false true false false) := by
  refine returnsInHanded_of_change_sized (C := Try.checked) own started (by kernel_rfl) Try.func11
    (ChangeSpec.witness6 (enc := enc) (C := Try.checked) false ⟨#[], #[.agg #[.int .u8 0, .int .u8 0, .int .u8 0, .slice none 0 0], .slice none 0 0], []⟩ 8 (by kernel_rfl) (by kernel_rfl) (by kernel_rfl) (by kernel_rfl)) ?_
  intro W base args ds gs before hval0 hW hcnd hsz0 _
  have hsz : (DataW.weightsEach Try.prog (Try.f11.params.toList ++ Rows.diffGreatestSpec.plain.varTypes Try.prog) (ds ++ gs)).all (· ≤ reachBytes) = true := hsz0
  have hval : ∀ (j : Nat) t v, Try.f11.params[j]? = some t → args[j]? = some v → Value.okWide Try.prog W .any base t v := hval0
  have hW' := hW
  obtain ⟨p, q, hA0, hV, rfl, hfz, hnd⟩ := hW
  have hA : DataW.TrodAll enc Try.prog W 0 (fun _ => true) true Try.f11.params.toList args.toList ds p := hA0
  rw [Try.params11] at hA hval hsz
  obtain ⟨v0, vs0, d0, ds0, p0, q0, hargs, rfl, rfl, h0, r0⟩ := trodAll_cons hA
  obtain ⟨v1, vs1, d1, ds1, p1, q1, rfl, rfl, rfl, h1, r1⟩ := trodAll_cons r0
  obtain ⟨rfl, rfl, rfl⟩ := trodAll_nil r1
  obtain rfl : args = #[v0, v1] := by cases args; simp_all
  obtain ⟨rfl, rfl⟩ := trodVars_none hV
  have k0_ := h0
  have lt0 : ∀ x ∈ p0, x.block < W.heap.size := by obtain ⟨m, hm⟩ := k0_; exact DataW.trod_lt m _ _ _ hm
  obtain ⟨s0, s1, s2, A, c, L, rfl, hr, hc, b0, b1, b2, hu⟩ := open_prob (hval 0 32 v0 rfl rfl) h0
  obtain ⟨A1, len1, cap1, rfl⟩ := okWide_slice Try.underlying42 (hval 1 42 v1 rfl rfl)
  have k1_ := h1
  have lt1 : ∀ x ∈ p1, x.block < W.heap.size := by obtain ⟨m, hm⟩ := k1_; exact DataW.trod_lt m _ _ _ hm
  obtain ⟨l1, hr1, hlen1, hc1, hg1⟩ := open_row (d := (Kd.int .i8)) (G := fun x => (Lit.int .i8 x).wf = true) Try.underlying42 (by kernel_rfl) (fun n cs y h => by obtain ⟨z, rfl, _, hw⟩ := DataW.trod_int Try.underlying38 h; exact ⟨z, rfl, hw⟩) h1
  have y1 : len1 * 1 ≤ 140737488351232 := sized_row hsz (j := 1) (t := 42) rfl rfl Try.underlying42 (by kernel_rfl) h1
  subst hlen1
  clear hA0 hval0 hsz0 hsz
  refine (interleavelaw32_DiffGreatest.calls W s0 s1 s2 A c L _ _ l1 hr1 hc1 (fun x hx => bounds_i8 (hg1 x hx)) (Pure.DiffGreatest l1 (fun x hx => bounds_i8 (hg1 x hx))) hr hc b0 b1 b2 hu).mono fun e W' ⟨he, bel⟩ => ?_
  subst he
  exact ⟨_, rfl, _, _, _, [], _, [], hW', trodAll_mk1 (shut_bool Try.underlying4 _), (trodAll_cons_mk (Below.trod laidOut (by kernel_rfl) (of_decide_eq_true (by kernel_rfl)) k0_ bel lt0) (trodAll_cons_mk (Below.trod laidOut (by kernel_rfl) (of_decide_eq_true (by kernel_rfl)) k1_ bel lt1) trodAll_mk0)), rfl, bel.frame _, fun h => by cases h⟩
theorem over : Rows.diffGreatestRow.holds Try.pinned (OpenSpec.ofChange Rows.diffGreatestSpec) :=
  OpenClaim.holds_of_wide 11 Try.f11 rfl rfl rfl rfl rfl rfl rfl ⟨rfl, rfl, rfl, rfl, rfl⟩ rfl rfl rfl rfl rfl (by kernel_rfl) Try.func11 (by kernel_rfl)
    (of_decide_eq_true (by kernel_rfl)) (by unfold Func.isWrapper; first | (rw [if_pos (by decide +kernel)]; kernel_rfl) | (rw [if_neg (by decide +kernel)]; exact ⟨rfl, rfl⟩))
    (fun os started H enc _ => lifted os started H enc)
theorem proved : Rows.DiffGreatestSaid := over
#print axioms proved
end Go.Proofs.Ytolfnlamknmeaaa.diffGreatest
namespace Go.Proofs.Ytolfnlamknmeaaa
/-- The row, under a short name, for the claim. -/
theorem diffGreatest_holds : Rows.DiffGreatestSaid := diffGreatest.proved
end Go.Proofs.Ytolfnlamknmeaaa
