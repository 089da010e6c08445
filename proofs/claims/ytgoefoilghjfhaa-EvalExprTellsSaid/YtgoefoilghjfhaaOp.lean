/- Arguments that are slices, whatever their elements' kind: how a row's reading becomes a list. -/
import Derived.Test.YtgoefoilghjfhaaWWords
import Derived.SizedLaws
import Derived.ChangeSlices
import Derived.ChangeArms
namespace Go.Proofs.Ytgoefoilghjfhaa.Op
open Go.ChangeShapes Go.WideShapes Go.RowKit Go.Proofs.YtgoefoilghjfhaaW.PrintWords
theorem exists_list {α : Type} {Q : Nat → α → Prop} : ∀ n, (∀ i, i < n → ∃ z, Q i z) → ∃ xs : List α, xs.length = n ∧ ∀ (i : Nat) (z : α), xs[i]? = some z → Q i z
  | 0, _ => ⟨[], rfl, fun i z h => by simp at h⟩
  | n + 1, h => by
    obtain ⟨xs, hl, hx⟩ := exists_list n (fun i hi => h i (by omega))
    obtain ⟨z, hz⟩ := h n (by omega)
    refine ⟨xs ++ [z], by simp [hl], fun i y hy => ?_⟩
    by_cases hi : i < xs.length
    · rw [List.getElem?_append_left hi] at hy; exact hx i y hy
    · rw [List.getElem?_append_right (by omega)] at hy
      have h0 : i - xs.length = 0 := by
        have := (List.getElem?_eq_some_iff.1 hy).1
        simp at this; omega
      rw [h0] at hy
      obtain rfl : z = y := by simpa using hy
      obtain rfl : i = n := by omega
      exact hz
/-- A slice's row, whatever its elements' kind: 'hel' opens one element. -/
theorem open_row {H : Type} {enc : TypeId × Value → H} {P : Program} {W : World} {base : Nat} {spare : Nat → Bool} {held : Bool} {α : Type} {d : Kd α} {G : α → Prop} {t e : TypeId} {a : Option Addr} {len cap : Nat} {x : DataW H} {ps : List MemPlace}
    (ht : P.underlying t = some (.slice e)) (hsz : P.cellsOf e = d.sz) (hel : ∀ n cs y, DataW.trod enc P W base spare held n e cs = some y → ∃ z, d.K W z cs ∧ G z)
    (h : DataW.Trod enc P W base spare held t (.slice a len cap) x ps) : ∃ xs : List α, d.C W a xs.length xs ∧ xs.length = len ∧ len ≤ cap ∧ (∀ z ∈ xs, G z) := by
  obtain ⟨fuel, hf⟩ := h
  rcases DataW.trod_slice ht hf with ⟨hcs, _⟩ | ⟨ad, l, c, elems, rest, n, _, hcs, hx, hb, hl, hm, hlen, hel', _, _⟩
  · simp [Value.cells] at hcs
    obtain ⟨rfl, rfl, rfl⟩ := hcs
    exact ⟨[], ⟨rfl, by simp, fun h => by simp at h⟩, rfl, Nat.le_refl _, fun z hz => by simp at hz⟩
  · simp [Value.cells] at hcs
    obtain ⟨rfl, rfl, rfl⟩ := hcs
    have hq : ∀ i, i < len → ∃ z, ∃ cs, cs.length = d.sz ∧ d.K W z cs ∧ G z ∧ ∀ j u, cs[j]? = some u → W.cell? (ad.add (i * d.sz + j)) = some u := by
      intro i hi
      have h1 := hel' i hi
      obtain ⟨y, hy⟩ : ∃ y, elems[i]? = some y := ⟨elems[i]'(by omega), List.getElem?_eq_getElem _⟩
      rw [hy, Option.bind_eq_some_iff] at h1
      obtain ⟨cs, hc, hty⟩ := h1
      obtain ⟨z, hK, hG⟩ := hel _ _ _ hty
      obtain ⟨_, hcl, hat⟩ := World.cells?_some hc
      rw [hsz] at hcl hat
      refine ⟨z, cs, hcl, hK, hG, fun j u hu => ?_⟩
      have hj : j < d.sz := by have := (List.getElem?_eq_some_iff.1 hu).1; omega
      have h2 := hat j hj
      rw [hu, add_add] at h2
      exact h2
    obtain ⟨xs, hxl, hxs⟩ := exists_list len hq
    refine ⟨xs, ⟨rfl, by rw [hxl]; have := Nat.le_trans hl hm; unfold maxLen at this; omega, fun _ => ⟨ad, rfl, fun j p hp => ?_⟩⟩, hxl, hl, fun z hz => ?_⟩
    · obtain ⟨cs, h1, h2, _, h3⟩ := hxs j p hp
      exact ⟨cs, h1, h2, h3⟩
    · obtain ⟨i, hi⟩ := List.getElem?_of_mem hz
      obtain ⟨cs, _, _, h3, _⟩ := hxs i z hi
      exact h3
/-- A slice's size by the row's weights. -/
theorem sized_row {H : Type} {enc : TypeId × Value → H} {P : Program} {W : World} {base : Nat} {spare : Nat → Bool} {held : Bool} {t e : TypeId} {a : Option Addr} {len cap : Nat} {d : DataW H} {ps : List MemPlace} {ts : List TypeId} {ds : List (DataW H)} {j : Nat}
    (hsz : (DataW.weightsEach P ts ds).all (· ≤ reachBytes) = true) (ht : ts[j]? = some t) (hd : ds[j]? = some d) (hu : P.underlying t = some (.slice e)) {B : Nat} (hB : P.bytesOf e = B)
    (h : DataW.Trod enc P W base spare held t (.slice a len cap) d ps) : len * B ≤ 140737488351232 := by
  obtain ⟨fuel, hf⟩ := h
  rcases DataW.trod_slice hu hf with ⟨hcs, _⟩ | ⟨ad, l, c, elems, rest, n, _, hcs, hx, hb, hl, hm, hlen, hel', _, _⟩
  · simp [Value.cells] at hcs
    obtain ⟨rfl, rfl, rfl⟩ := hcs
    simp
  · simp [Value.cells] at hcs
    obtain ⟨rfl, rfl, rfl⟩ := hcs
    obtain ⟨hx, _⟩ := Prod.mk.inj hx
    subst hx
    have z := sized_slice hsz ht hd hu
    rw [hB] at z
    have h1 : len ≤ (elems.map (·.1)).length + (rest.map (·.1)).length := by simp; omega
    exact Nat.le_trans (Nat.mul_le_mul_right _ h1) z
end Go.Proofs.Ytgoefoilghjfhaa.Op
