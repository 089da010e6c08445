/- EvalExprTells: the given statement, out of its plain proof and the printed walk of its function. -/
import Derived.Test.YtgoefoilghjfhaaRows
import Derived.Test.YtgoefoilghjfhaaWalkEvalExprTells
import Derived.Test.YtgoefoilghjfhaaPureEvalExprTells
import Derived.Test.YtgoefoilghjfhaaOp
import Derived.WalkKit
import Derived.ProofKit
import Derived.OpenShut
import Derived.ShutString
import Derived.ChangeOld
import Derived.Below
import Derived.SizedLaws
namespace Go.Proofs.Ytgoefoilghjfhaa.evalExprTells
open Go.ChangeShapes Go.WideShapes Go.ChangeAt Go.RowKit Go.Proofs.Ytgoefoilghjfhaa.MEvalExprTells Go.Proofs.YtgoefoilghjfhaaW.PrintWords Go.Proofs.Ytgoefoilghjfhaa.Op
open Go.ChangeMaps (open_string shut_string)
set_option linter.unusedVariables false
set_option linter.unusedSimpArgs false
theorem own : ownKnob Try.prog.godebug = none := by kernel_rfl
theorem laidOut : laidOutB Try.prog = true := by kernel_rfl
/-- The same, its elements read with less fuel (trees). -/
theorem open_rowB {H : Type} {enc : TypeId × Value → H} {P : Program} {W : World} {base : Nat} {spare : Nat → Bool} {held : Bool} {α : Type} {d : Kd α} {G : α → Prop} {t e : TypeId} {a : Option Addr} {len cap : Nat} {x : DataW H} {ps : List MemPlace}
    (ht : P.underlying t = some (.slice e)) (hsz : P.cellsOf e = d.sz) {fuel : Nat} (hel : ∀ n, n < fuel → ∀ cs y, DataW.trod enc P W base spare held n e cs = some y → ∃ z, d.K W z cs ∧ G z)
    (hf : DataW.trod enc P W base spare held fuel t [.slice a len cap] = some (x, ps)) : ∃ xs : List α, d.C W a xs.length xs ∧ xs.length = len ∧ len ≤ cap ∧ (∀ z ∈ xs, G z) := by
  rcases DataW.trod_slice ht hf with ⟨hcs, _⟩ | ⟨ad, l, c, elems, rest, n, hfu, hcs, hx, hb, hl, hm, hlen, hel', _, _⟩
  · simp at hcs
    obtain ⟨rfl, rfl, rfl⟩ := hcs
    exact ⟨[], ⟨rfl, by simp, fun h => by simp at h⟩, rfl, Nat.le_refl _, fun z hz => by simp at hz⟩
  · simp at hcs
    obtain ⟨rfl, rfl, rfl⟩ := hcs
    have hq : ∀ i, i < len → ∃ z, ∃ cs, cs.length = d.sz ∧ d.K W z cs ∧ G z ∧ ∀ j u, cs[j]? = some u → W.cell? (ad.add (i * d.sz + j)) = some u := by
      intro i hi
      have h1 := hel' i hi
      obtain ⟨y, hy⟩ : ∃ y, elems[i]? = some y := ⟨elems[i]'(by omega), List.getElem?_eq_getElem _⟩
      rw [hy, Option.bind_eq_some_iff] at h1
      obtain ⟨cs, hc, hty⟩ := h1
      obtain ⟨z, hK, hG⟩ := hel n (by omega) _ _ hty
      obtain ⟨_, hcl, hat⟩ := World.cells?_some hc
      rw [hsz] at hcl hat
      refine ⟨z, cs, hcl, hK, hG, fun j u hu => ?_⟩
      have hj : j < d.sz := by have := (List.getElem?_eq_some_iff.1 hu).1; omega
      have h2 := hat j hj
      rw [hu, add_add] at h2
      exact h2
    obtain ⟨xs, hxl, hxs⟩ := exists_list len hq
    refine ⟨xs, ⟨rfl, by rw [hxl]; have := Nat.le_trans hl hm; unfold maxLen at this; omega, fun _ => ⟨ad, rfl, fun j p hp => ?_⟩⟩, hxl, hl, fun z hz => ?_⟩
    · obtain ⟨cs, h1, h2, _, h3⟩ := hxs j p hp
      exact ⟨cs, h1, h2, h3⟩
    · obtain ⟨i, hi⟩ := List.getElem?_of_mem hz
      obtain ⟨cs, _, _, h3, _⟩ := hxs i z hi
      exact h3

/-- An expression that came in: a tree. -/
theorem open_tree {H : Type} {enc : TypeId × Value → H} {W : World} {base : Nat} {spare : Nat → Bool} {held : Bool} : ∀ (fuel : Nat) (cs : List Value) (y : DataW H × List MemPlace), DataW.trod enc Try.prog W base spare held fuel 36 cs = some y → ∃ x : S36, k36.K W x cs ∧ True := by
  intro fuel
  induction fuel using Nat.strongRecOn with
  | ind fuel ih =>
    intro cs y h
    obtain ⟨xs, n, hfu, _, hcl, hxl, hf⟩ := DataW.trod_struct Try.underlying36 h
    replace hcl : cs.length = 4 := hcl.trans (by kernel_rfl)
    replace hxl : xs.length = 4 := hxl
    match cs, hcl with
    | [c0, c1, c2, c3], _ =>
      have h0 : DataW.trod enc Try.prog W base spare held n 3 ((([c0, c1, c2, c3] : List Value).drop 0).take (Try.prog.cellsOf 3)) = xs[0]? := hf 0 _ rfl
      have h1 : DataW.trod enc Try.prog W base spare held n 2 ((([c0, c1, c2, c3] : List Value).drop 1).take (Try.prog.cellsOf 2)) = xs[1]? := hf 1 _ rfl
      have h2 : DataW.trod enc Try.prog W base spare held n 9 ((([c0, c1, c2, c3] : List Value).drop 2).take (Try.prog.cellsOf 9)) = xs[2]? := hf 2 _ rfl
      have h3 : DataW.trod enc Try.prog W base spare held n 34 ((([c0, c1, c2, c3] : List Value).drop 3).take (Try.prog.cellsOf 34)) = xs[3]? := hf 3 _ rfl
      rw [show Try.prog.cellsOf 3 = 1 from by kernel_rfl, List.getElem?_eq_getElem (by omega)] at h0
      rw [show Try.prog.cellsOf 2 = 1 from by kernel_rfl, List.getElem?_eq_getElem (by omega)] at h1
      rw [show Try.prog.cellsOf 9 = 1 from by kernel_rfl, List.getElem?_eq_getElem (by omega)] at h2
      rw [show Try.prog.cellsOf 34 = 1 from by kernel_rfl, List.getElem?_eq_getElem (by omega)] at h3
      replace h0 : DataW.trod enc Try.prog W base spare held n 3 [c0] = some _ := h0
      replace h1 : DataW.trod enc Try.prog W base spare held n 2 [c1] = some _ := h1
      replace h2 : DataW.trod enc Try.prog W base spare held n 9 [c2] = some _ := h2
      replace h3 : DataW.trod enc Try.prog W base spare held n 34 [c3] = some _ := h3
      obtain ⟨v0, e0, _, _⟩ := DataW.trod_int Try.underlying3 h0
      obtain ⟨v1, e1, _, _⟩ := DataW.trod_int Try.underlying2 h1
      obtain ⟨v2, e2, _, _⟩ := DataW.trod_string Try.underlying9 h2
      obtain rfl : c0 = .int .i64 v0 := by simpa using e0
      obtain rfl : c1 = .int .i64 v1 := by simpa using e1
      obtain rfl : c2 = .string v2 := by simpa using e2
      obtain ⟨A, len, cap, rfl⟩ : ∃ A len cap, c3 = .slice A len cap := by
        rcases DataW.trod_slice Try.underlying34 h3 with ⟨hcs, _⟩ | ⟨ad, l, c, elems, rest, k, _, hcs, _⟩
        · exact ⟨none, 0, 0, by simpa using hcs⟩
        · exact ⟨some ad, l, c, by simpa using hcs⟩
      obtain ⟨l, hr, hlen, hc, _⟩ := open_rowB (d := k36) (G := fun _ => True) Try.underlying34 (by kernel_rfl) (fun m hm cs y h => ih m (by omega) cs y h) h3
      subst hlen
      exact ⟨⟨v0, v1, v2, l⟩, k36_mk W ⟨v0, v1, v2, l⟩ hc hr, trivial⟩
theorem open_expr {H : Type} {enc : TypeId × Value → H} {W : World} {b0 base : Nat} {spare : Nat → Bool} {held : Bool} {v : Value} {x : DataW H} {ps : List MemPlace} (hv : Value.okWide Try.prog W .any b0 36 v) (h : DataW.Trod enc Try.prog W base spare held 36 v x ps) :
    ∃ (op n : Int) (nm : ByteArray) (A : Option Addr) (c : Nat) (l : List S36), v = .agg #[.int .i64 op, .int .i64 n, .string nm, .slice A l.length c] ∧ Kd.C k36 W A l.length l ∧ l.length ≤ c := by
  obtain ⟨cs, rfl, _⟩ := okWide_struct Try.underlying36 hv
  obtain ⟨fuel, hf⟩ := h
  obtain ⟨e, hK, _⟩ := open_tree fuel cs.toList (x, ps) hf
  obtain ⟨A3, c3, he, hl, hC⟩ := k36_open hK
  refine ⟨e.f0, e.f1, e.f2, A3, c3, e.f3, ?_, hC, hl⟩
  congr 1
  exact Array.toList_inj.1 he

set_option maxRecDepth 100000 in
theorem lifted (os : Os) (started : os.Started) (H : Type) (enc : TypeId × Value → H) :
    ReturnsInHanded {} Try.checked os 8 .any (Rows.evalExprTellsSpec.pre6 enc Try.prog Try.f8 Rows.evalExprTellsRow.domain false) (Rows.evalExprTellsSpec.post enc Try.prog Try.f8 false true false false) := by
  refine returnsInHanded_of_change_sized (C := Try.checked) own started (by kernel_rfl) Try.func8
    (ChangeSpec.witness6 (enc := enc) (C := Try.checked) false ⟨#[], #[.slice none 0 0, .agg #[.int .i64 0, .int .i64 0, .string ⟨#[]⟩, .slice none 0 0], .slice none 0 0, .slice none 0 0], []⟩ 8 (by kernel_rfl) (by kernel_rfl) (by kernel_rfl) (by kernel_rfl)) ?_
  intro W base args ds gs before hval0 hW hcnd hsz0 _
  have hsz : (DataW.weightsEach Try.prog (Try.f8.params.toList ++ Rows.evalExprTellsSpec.plain.varTypes Try.prog) (ds ++ gs)).all (· ≤ reachBytes) = true := hsz0
  have hval : ∀ (j : Nat) t v, Try.f8.params[j]? = some t → args[j]? = some v → Value.okWide Try.prog W .any base t v := hval0
  have hW' := hW
  obtain ⟨p, q, hA0, hV, rfl, hfz, hnd⟩ := hW
  have hA : DataW.TrodAll enc Try.prog W 0 (fun _ => true) true Try.f8.params.toList args.toList ds p := hA0
  rw [Try.params8] at hA hval hsz
  obtain ⟨v0, vs0, d0, ds0, p0, q0, hargs, rfl, rfl, h0, r0⟩ := trodAll_cons hA
  obtain ⟨v1, vs1, d1, ds1, p1, q1, rfl, rfl, rfl, h1, r1⟩ := trodAll_cons r0
  obtain ⟨v2, vs2, d2, ds2, p2, q2, rfl, rfl, rfl, h2, r2⟩ := trodAll_cons r1
  obtain ⟨v3, vs3, d3, ds3, p3, q3, rfl, rfl, rfl, h3, r3⟩ := trodAll_cons r2
  obtain ⟨rfl, rfl, rfl⟩ := trodAll_nil r3
  obtain rfl : args = #[v0, v1, v2, v3] := by cases args; simp_all
  obtain ⟨rfl, rfl⟩ := trodVars_none hV
  obtain ⟨A0, len0, cap0, rfl⟩ := okWide_slice Try.underlying33 (hval 0 33 v0 rfl rfl)
  have k0_ := h0
  have lt0 : ∀ x ∈ p0, x.block < W.heap.size := by obtain ⟨m, hm⟩ := k0_; exact DataW.trod_lt m _ _ _ hm
  obtain ⟨l0, hr0, hlen0, hc0, hg0⟩ := open_row (d := (Kd.int .u8)) (G := fun x => (Lit.int .u8 x).wf = true) Try.underlying33 (by kernel_rfl) (fun n cs y h => by obtain ⟨z, rfl, _, hw⟩ := DataW.trod_int Try.underlying5 h; exact ⟨z, rfl, hw⟩) h0
  have y0 : len0 * 1 ≤ 140737488351232 := sized_row hsz (j := 0) (t := 33) rfl rfl Try.underlying33 (by kernel_rfl) h0
  subst hlen0
  have k1_ := h1
  have lt1 : ∀ x ∈ p1, x.block < W.heap.size := by obtain ⟨m, hm⟩ := k1_; exact DataW.trod_lt m _ _ _ hm
  obtain ⟨op, n, nm, A, c, l, rfl, hre, hce⟩ := open_expr (hval 1 36 v1 rfl rfl) h1
  obtain ⟨A2, len2, cap2, rfl⟩ := okWide_slice Try.underlying37 (hval 2 37 v2 rfl rfl)
  have k2_ := h2
  have lt2 : ∀ x ∈ p2, x.block < W.heap.size := by obtain ⟨m, hm⟩ := k2_; exact DataW.trod_lt m _ _ _ hm
  obtain ⟨l2, hr2, hlen2, hc2, hg2⟩ := open_row (d := Kd.string) (G := fun x => True) Try.underlying37 (by kernel_rfl) (fun n cs y h => by obtain ⟨z, rfl, _, _⟩ := DataW.trod_string Try.underlying9 h; exact ⟨z, rfl, trivial⟩) h2
  have y2 : len2 * 16 ≤ 140737488351232 := sized_row hsz (j := 2) (t := 37) rfl rfl Try.underlying37 (by kernel_rfl) h2
  subst hlen2
  obtain ⟨A3, len3, cap3, rfl⟩ := okWide_slice Try.underlying27 (hval 3 27 v3 rfl rfl)
  have k3_ := h3
  have lt3 : ∀ x ∈ p3, x.block < W.heap.size := by obtain ⟨m, hm⟩ := k3_; exact DataW.trod_lt m _ _ _ hm
  obtain ⟨l3, hr3, hlen3, hc3, hg3⟩ := open_row (d := (Kd.int .i64)) (G := fun x => (Lit.int .i64 x).wf = true) Try.underlying27 (by kernel_rfl) (fun n cs y h => by obtain ⟨z, rfl, _, hw⟩ := DataW.trod_int Try.underlying2 h; exact ⟨z, rfl, hw⟩) h3
  have y3 : len3 * 8 ≤ 140737488351232 := sized_row hsz (j := 3) (t := 27) rfl rfl Try.underlying27 (by kernel_rfl) h3
  subst hlen3
  clear hA0 hval0 hsz0 hsz
  refine (interleavelaw05_EvalExprTells.calls W _ _ l0 op n nm A c l _ _ l2 _ _ l3 hr0 hc0 (fun x hx => bounds_u8 (hg0 x hx)) hre hce hr2 hc2 hr3 hc3 (Pure.EvalExprTells op n nm l l2 l3) (Pure.EvalExprTells2 l3)).mono fun e W' ⟨he, bel⟩ => ?_
  subst he
  exact ⟨_, rfl, _, _, _, [], _, [], hW', trodAll_mk1 (shut_bool Try.underlying4 _), (trodAll_cons_mk (Below.trod laidOut (by kernel_rfl) (of_decide_eq_true (by kernel_rfl)) k0_ bel lt0) (trodAll_cons_mk (Below.trod laidOut (by kernel_rfl) (of_decide_eq_true (by kernel_rfl)) k1_ bel lt1) (trodAll_cons_mk (Below.trod laidOut (by kernel_rfl) (of_decide_eq_true (by kernel_rfl)) k2_ bel lt2) (trodAll_cons_mk (Below.trod laidOut (by kernel_rfl) (of_decide_eq_true (by kernel_rfl)) k3_ bel lt3) trodAll_mk0)))), rfl, bel.frame _, fun h => by cases h⟩
theorem over : Rows.evalExprTellsRow.holds Try.pinned (OpenSpec.ofChange Rows.evalExprTellsSpec) :=
  OpenClaim.holds_of_wide 8 Try.f8 rfl rfl rfl rfl rfl rfl rfl ⟨rfl, rfl, rfl, rfl, rfl⟩ rfl rfl rfl rfl rfl (by kernel_rfl) Try.func8 (by kernel_rfl)
    (of_decide_eq_true (by kernel_rfl)) (by unfold Func.isWrapper; first | (rw [if_pos (by decide +kernel)]; kernel_rfl) | (rw [if_neg (by decide +kernel)]; exact ⟨rfl, rfl⟩))
    (fun os started H enc _ => lifted os started H enc)
theorem proved : Rows.EvalExprTellsSaid := over
#print axioms proved
end Go.Proofs.Ytgoefoilghjfhaa.evalExprTells
namespace Go.Proofs.Ytgoefoilghjfhaa
/-- The row, under a short name, for the claim. -/
theorem evalExprTells_holds : Rows.EvalExprTellsSaid := evalExprTells.proved
end Go.Proofs.Ytgoefoilghjfhaa
