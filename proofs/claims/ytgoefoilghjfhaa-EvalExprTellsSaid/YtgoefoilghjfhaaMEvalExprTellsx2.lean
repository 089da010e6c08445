-- Written by a program of this session (wip/myprint in its repo: the kit's print with additions of its own).
import Derived.Test.YtgoefoilghjfhaaMEvalExprTellsx0
import Derived.Test.YtgoefoilghjfhaaMEvalExprTellsx1
namespace Go.Proofs.Ytgoefoilghjfhaa.MEvalExprTells
open Go.RowKit Go.Proofs.YtgoefoilghjfhaaW.PrintWords Go.Proofs.YtgoefoilghjfhaaW.PrintLast Go.Proofs.YtgoefoilghjfhaaW.PrintMore
attribute [local go_sem] max2_int min2_int max_two min_two max_three min_three max_four min_four   -- for this text's walks alone
set_option linter.unusedVariables false
set_option linter.unusedSimpArgs false

/-! ### interleavemade_loose_expr: function 25 -/
def interleavemade_loose_expr.Sm : Nat → List S36 → Prop
  | 0, l => l = []
  | d + 1, l => l.length ≤ 2 ∧ ∀ x ∈ l, interleavemade_loose_expr.Sm d x.f3
theorem interleavemade_loose_expr.Sm.nil : ∀ d, interleavemade_loose_expr.Sm d []
  | 0 => rfl
  | d + 1 => ⟨by simp, fun x hx => by cases hx⟩
theorem interleavemade_loose_expr.nextv (L : List Int) (at_ m : Int) (hat : 0 ≤ at_) (hL : ∀ x ∈ L, 0 ≤ x ∧ x ≤ 255) (hl : L.length ≤ 300) (hm : 1 ≤ m) : ∃ r a', interleavemade_Tape_Next.f L at_ m = some (r, a') ∧ 0 ≤ r ∧ r < m ∧ 0 ≤ a' := by
  unfold interleavemade_Tape_Next.f
  by_cases h1 : at_ ≥ (L.length : Int)
  · exact ⟨0, at_, by rw [if_pos h1], by omega, by omega, hat⟩
  · have e1 : wrap64 (at_ + 1) = at_ + 1 := by unfold wrap64; omega
    have e2 : wrap64 (at_ + 1 - 1) = at_ := by unfold wrap64; omega
    have hr : 0 ≤ rd L at_ ∧ rd L at_ ≤ 255 := by
      refine hL _ ?_
      have hh : at_.toNat < L.length := by omega
      rw [rd, List.getD_eq_getElem?_getD, List.getElem?_eq_getElem hh]
      exact List.getElem_mem hh
    have e3 : wrap64 (rd L at_) = rd L at_ := by unfold wrap64; omega
    rw [if_neg h1, if_neg (by omega), e1, e2, if_pos hat, if_pos (by omega), if_neg (by omega), e3]
    refine ⟨_, _, rfl, ?_, ?_, by omega⟩
    · rw [Int.tmod_eq_emod_of_nonneg hr.1]; exact Int.emod_nonneg _ (by omega)
    · rw [Int.tmod_eq_emod_of_nonneg hr.1]; exact Int.emod_lt_of_pos _ (by omega)
structure interleavemade_loose_expr.Se (w0 w W : World) (g gt : Nat) (L : List Int) (at_ ln lf : Int) : Prop where
  tape : IsS49 w0 W gt L at_
  lo : W.heap[g]? = some (.cells #[.pointer (some ⟨gt, 0, none⟩), .int .i64 ln, .int .i64 lf] 51 (0, 0))
  res : W.heap[w.heap.size]? = some (.cells #[.int .i64 0, .int .i64 0, .string ⟨#[]⟩, .slice none 0 0] 36 (0, 0))
  keep : KeepBut w W gt none
  B : Below w0.heap.size w0 W
  ne : g ≠ gt
  lt : gt < w.heap.size
section
variable {w0 w W W1 : World} {g gt : Nat} {L : List Int} {at_ ln lf : Int}
theorem interleavemade_loose_expr.Se.below (h : interleavemade_loose_expr.Se w0 w W g gt L at_ ln lf) (hb : Below W.heap.size W W1) : interleavemade_loose_expr.Se w0 w W1 g gt L at_ ln lf :=
  ⟨h.tape.below hb, blk_below h.lo hb, blk_below h.res hb, h.keep.trans (KeepBut.of_below hb gt none) (.inl rfl), below_step h.B hb, h.ne, h.lt⟩
theorem interleavemade_loose_expr.Se.alloc (h : interleavemade_loose_expr.Se w0 w W g gt L at_ ln lf) (o : Obj) : interleavemade_loose_expr.Se w0 w (W.alloc o) g gt L at_ ln lf := h.below (below_alloc (Below.refl _ _) o)
theorem interleavemade_loose_expr.Se.drewN (h : interleavemade_loose_expr.Se w0 w W g gt L at_ ln lf) (k : Nat) : interleavemade_loose_expr.Se w0 w (W.drewN k) g gt L at_ ln lf := h.below (pw_below_drewN (Below.refl _ _) k)
theorem interleavemade_loose_expr.Se.next (h : interleavemade_loose_expr.Se w0 w W g gt L at_ ln lf) {a1 : Int} (hI : IsS49 w0 W1 gt L a1) (hk : KeepBut W W1 gt none) (hB : Below w0.heap.size w0 W1) : interleavemade_loose_expr.Se w0 w W1 g gt L a1 ln lf :=
  ⟨hI, hk.blk h.lo h.ne (by simp), hk.blk h.res (by have := h.lt; omega) (by simp), h.keep.trans hk (.inl rfl), hB, h.ne, h.lt⟩
end
theorem interleavemade_loose_expr.ints8 (i : Nat) (hi : i < 8) : ∃ x : Int, (#[.int .i64 0, .int .i64 1, .int .i64 2, .int .i64 3, .int .i64 7, .int .i64 10, .int .i64 100, .int .i64 9223372036854775807] : Array Value)[i]? = some (.int .i64 x) := by
  match i, hi with
  | 0, _ => exact ⟨_, rfl⟩
  | 1, _ => exact ⟨_, rfl⟩
  | 2, _ => exact ⟨_, rfl⟩
  | 3, _ => exact ⟨_, rfl⟩
  | 4, _ => exact ⟨_, rfl⟩
  | 5, _ => exact ⟨_, rfl⟩
  | 6, _ => exact ⟨_, rfl⟩
  | 7, _ => exact ⟨_, rfl⟩
  | i + 8, h => omega
def interleavemade_loose_expr.Post (d : Nat) (w0 w : World) (g gt : Nat) (L : List Int) (e : Ending) (w' : World) : Prop := ∃ (op n : Int) (nm : ByteArray) (v : Value) (l : List S36) (a' : Int), e = .returned (.agg #[.int .i64 op, .int .i64 n, .string nm, v]) ∧ Kd.V k36 36 w' w0.heap.size (fun k => w.heap.size ≤ k) v l ∧ interleavemade_loose_expr.Sm d l ∧ IsS49 w0 w' gt L a' ∧ 0 ≤ a' ∧ KeepBut w w' gt none ∧ Below w0.heap.size w0 w'
/-- One element's row, made of its cells. -/
theorem interleavemade_loose_expr.oneV (W : World) (base : Nat) (ok : Nat → Prop) (x : S36) {v : Value} (hV : Kd.V k36 36 W base ok v x.f3) : Kd.V k36 36 (W.alloc (.cells #[.int .i64 x.f0, .int .i64 x.f1, .string x.f2, v] 36)) base (fun k => ok k ∨ k = W.heap.size) (.slice (some ⟨W.heap.size, 0, none⟩) 1 1) [x] := by
  obtain ⟨A, c, rfl, hl, hf⟩ := hV
  refine ⟨_, _, rfl, by simp, fun W' hW => ?_⟩
  have hb : W'.heap[W.heap.size]? = some (.cells #[.int .i64 x.f0, .int .i64 x.f1, .string x.f2, .slice A x.f3.length c] 36 (0, 0)) := (hW _ (.inr rfl) (by simp)).trans (blk_new _ _)
  have hC := Kd.F_now (Kd.F_step (Kd.F_alloc hf (.cells #[.int .i64 x.f0, .int .i64 x.f1, .string x.f2, .slice A x.f3.length c] 36)) (fun k hk hlt => hW k (.inl hk) hlt))
  refine ⟨rfl, by simp, fun _ => ⟨_, rfl, fun j p hj => ?_⟩⟩
  match j, hj with
  | 0, hj =>
    obtain rfl : x = p := by simpa using hj
    refine ⟨_, rfl, k36_mk _ x hl hC, fun i u hu => ?_⟩
    have h := World.news_of_block (cs := #[.int .i64 x.f0, .int .i64 x.f1, .string x.f2, .slice A x.f3.length c]) (t := 36) (fr := (0, 0)) hb i u hu
    rw [Nat.zero_mul, Nat.zero_add]
    exact h
  | j + 1, hj => simp at hj
def interleavemade_loose_expr.Fin (d : Nat) (w0 w W : World) (gt : Nat) (L : List Int) (op n : Int) (nm : ByteArray) (v : Value) (l : List S36) (a' : Int) : Prop :=
  (W.heap[w.heap.size]? = some (.cells #[.int .i64 op, .int .i64 n, .string nm, v] 36 (0, 0))) ∧ Kd.V k36 36 W w0.heap.size (fun k => w.heap.size ≤ k) v l ∧ interleavemade_loose_expr.Sm d l ∧ IsS49 w0 W gt L a' ∧ 0 ≤ a' ∧ KeepBut w W gt none ∧ Below w0.heap.size w0 W
theorem interleavemade_loose_expr.fin {d : Nat} {w0 w W : World} {g gt : Nat} {L : List Int} {a' ln lf : Int} (hS : interleavemade_loose_expr.Se w0 w W g gt L a' ln lf) (hw : w0.heap.size ≤ w.heap.size) (op n : Int) (nm : ByteArray) {v : Value} {l : List S36} (hV : Kd.V k36 36 W w0.heap.size (fun k => w.heap.size < k) v l) (hs : interleavemade_loose_expr.Sm d l) (ha : 0 ≤ a') :
    interleavemade_loose_expr.Fin d w0 w ((((W.setCell ⟨w.heap.size, 0, none⟩ (.int .i64 op)).setCell ⟨w.heap.size, 1, none⟩ (.int .i64 n)).setCell ⟨w.heap.size, 2, none⟩ (.string nm)).setCell ⟨w.heap.size, 3, none⟩ v) gt L op n nm v l a' := by
  have hne : gt ≠ w.heap.size := Nat.ne_of_lt hS.lt
  have hf : ∀ k, w.heap.size < k → k ≠ w.heap.size := fun k hk => by omega
  exact ⟨blk_put (blk_put (blk_put (blk_put hS.res 0 _ rfl) 1 _ rfl) 2 _ rfl) 3 _ rfl,
    Kd.V_mono (Kd.V_far (p := ⟨w.heap.size, 3, none⟩) (Kd.V_far (p := ⟨w.heap.size, 2, none⟩) (Kd.V_far (p := ⟨w.heap.size, 1, none⟩) (Kd.V_far (p := ⟨w.heap.size, 0, none⟩) hV hf _) hf _) hf _) hf _) (fun k hk => by omega),
    hs, (((hS.tape.far (p := ⟨w.heap.size, 0, none⟩) hne _).far (p := ⟨w.heap.size, 1, none⟩) hne _).far (p := ⟨w.heap.size, 2, none⟩) hne _).far (p := ⟨w.heap.size, 3, none⟩) hne _, ha,
    keep_far (keep_far (keep_far (keep_far hS.keep (p := ⟨w.heap.size, 0, none⟩) (Nat.le_refl _) _) (p := ⟨w.heap.size, 1, none⟩) (Nat.le_refl _) _) (p := ⟨w.heap.size, 2, none⟩) (Nat.le_refl _) _) (p := ⟨w.heap.size, 3, none⟩) (Nat.le_refl _) _,
    below_set (below_set (below_set (below_set hS.B hw) hw) hw) hw⟩
theorem interleavemade_loose_expr.Fin.drew {d : Nat} {w0 w W : World} {gt : Nat} {L : List Int} {op n : Int} {nm : ByteArray} {v : Value} {l : List S36} {a' : Int} (h : interleavemade_loose_expr.Fin d w0 w W gt L op n nm v l a') : interleavemade_loose_expr.Fin d w0 w W.drew gt L op n nm v l a' := by
  obtain ⟨h1, h2, h3, h4, h5, h6, h7⟩ := h
  exact ⟨blk_drew h1, Kd.V_drew h2, h3, h4.below (below_drew (Below.refl _ _)), h5, keep_drew h6, below_drew h7⟩
theorem interleavemade_loose_expr.idx10 (r m : Int) (h0 : 0 ≤ r) (h1 : r < 10) (hm : 0 < m) : 0 ≤ r.tmod m ∧ r.tmod m < 10 := by
  rw [Int.tmod_eq_emod_of_nonneg h0]
  have h2 := Int.emod_nonneg r (show m ≠ 0 by omega)
  refine ⟨h2, ?_⟩
  by_cases h : r < m
  · rw [Int.emod_eq_of_lt h0 h]; exact h1
  · have := Int.emod_lt_of_pos r hm; omega
theorem interleavemade_loose_expr.names10 (i : Nat) (hi : i < 10) : ∃ s : ByteArray, (#[.string ⟨#[120]⟩, .string ⟨#[121]⟩, .string ⟨#[97]⟩, .string ⟨#[98]⟩, .string ⟨#[118]⟩, .string ⟨#[113]⟩, .string ⟨#[109]⟩, .string ⟨#[116]⟩, .string ⟨#[122, 122]⟩, .string ⟨#[102]⟩] : Array Value)[i]? = some (.string s) := by
  match i, hi with
  | 0, _ => exact ⟨_, rfl⟩
  | 1, _ => exact ⟨_, rfl⟩
  | 2, _ => exact ⟨_, rfl⟩
  | 3, _ => exact ⟨_, rfl⟩
  | 4, _ => exact ⟨_, rfl⟩
  | 5, _ => exact ⟨_, rfl⟩
  | 6, _ => exact ⟨_, rfl⟩
  | 7, _ => exact ⟨_, rfl⟩
  | 8, _ => exact ⟨_, rfl⟩
  | 9, _ => exact ⟨_, rfl⟩
  | i + 10, h => omega
set_option maxHeartbeats 8000000 in
set_option maxRecDepth 100000 in
theorem interleavemade_loose_expr.calls (d : Nat) : ∀ (w0 w : World) (g gt : Nat) (L : List Int) (at_ ln lf : Int), d ≤ 5 → IsS49 w0 w gt L at_ → 0 ≤ at_ → (∀ x ∈ L, 0 ≤ x ∧ x ≤ 255) → L.length ≤ 300 → w.heap[g]? = some (.cells #[.pointer (some ⟨gt, 0, none⟩), .int .i64 ln, .int .i64 lf] 51 (0, 0)) → g ≠ gt → Below w0.heap.size w0 w →
    Calls Try.prog 25 #[.pointer (some ⟨g, 0, none⟩), .int .i64 (d : Int)] w (interleavemade_loose_expr.Post d w0 w g gt L) := by
  induction d with
  | zero =>
    intro w0 w g gt L at_ ln lf hd hI hat hL hl hg hne hB
    have HI := Aside0.mk hI
    have HL := Aside0.mk (And.intro hL hl)
    have hgt : gt < w.heap.size := by obtain ⟨_, _, h, _⟩ := hI; exact blk_lt h
    have HG := Aside0.mk hg
    have HB := Aside0.mk hB
    have hw0 := hB.size
    clear hI hL hl hg hB
    have hu36 := Try.underlying36
    have HS1 : Aside0 (interleavemade_loose_expr.Se w0 w ((w.alloc (.cells #[.int .i64 0, .int .i64 0, .string ⟨#[]⟩, .slice none 0 0] 36)).alloc (.cells #[.string ⟨#[120]⟩, .string ⟨#[121]⟩, .string ⟨#[97]⟩, .string ⟨#[98]⟩, .string ⟨#[118]⟩, .string ⟨#[113]⟩, .string ⟨#[109]⟩, .string ⟨#[116]⟩, .string ⟨#[122, 122]⟩, .string ⟨#[102]⟩] 9)) g gt L at_ ln lf) := ⟨(interleavemade_loose_expr.Se.mk (HI.out.alloc _) (blk_alloc HG.out _) (blk_new _ _) (keep_alloc (KeepBut.refl _ _ _) _) (below_alloc HB.out _) hne hgt).alloc _⟩
    have HN1 : Aside0 (((w.alloc (.cells #[.int .i64 0, .int .i64 0, .string ⟨#[]⟩, .slice none 0 0] 36)).alloc (.cells #[.string ⟨#[120]⟩, .string ⟨#[121]⟩, .string ⟨#[97]⟩, .string ⟨#[98]⟩, .string ⟨#[118]⟩, .string ⟨#[113]⟩, .string ⟨#[109]⟩, .string ⟨#[116]⟩, .string ⟨#[122, 122]⟩, .string ⟨#[102]⟩] 9)).heap[w.heap.size + 1]? = some (.cells #[.string ⟨#[120]⟩, .string ⟨#[121]⟩, .string ⟨#[97]⟩, .string ⟨#[98]⟩, .string ⟨#[118]⟩, .string ⟨#[113]⟩, .string ⟨#[109]⟩, .string ⟨#[116]⟩, .string ⟨#[122, 122]⟩, .string ⟨#[102]⟩] 9 (0, 0))) := ⟨by simpa using blk_new (w.alloc (.cells #[.int .i64 0, .int .i64 0, .string ⟨#[]⟩, .slice none 0 0] 36)) (.cells #[.string ⟨#[120]⟩, .string ⟨#[121]⟩, .string ⟨#[97]⟩, .string ⟨#[98]⟩, .string ⟨#[118]⟩, .string ⟨#[113]⟩, .string ⟨#[109]⟩, .string ⟨#[116]⟩, .string ⟨#[122, 122]⟩, .string ⟨#[102]⟩] 9)⟩
    have c1 : ((w.alloc (.cells #[.int .i64 0, .int .i64 0, .string ⟨#[]⟩, .slice none 0 0] 36)).alloc (.cells #[.string ⟨#[120]⟩, .string ⟨#[121]⟩, .string ⟨#[97]⟩, .string ⟨#[98]⟩, .string ⟨#[118]⟩, .string ⟨#[113]⟩, .string ⟨#[109]⟩, .string ⟨#[116]⟩, .string ⟨#[122, 122]⟩, .string ⟨#[102]⟩] 9)).cell? ⟨g, 0, none⟩ = some (.pointer (some ⟨gt, 0, none⟩)) := (blk_cell HS1.out.lo 0).trans rfl
    go_enter Try.func25, Try.ntmps25
    go_wp2_with fail
    obtain ⟨k, a1, hkf, hk0, hk1, hk2⟩ := interleavemade_loose_expr.nextv L at_ 20 (by omega) HL.out.1 HL.out.2 (by omega)
    refine (interleavemade_Tape_Next.calls gt L at_ 20 k a1 w0 _ HS1.out.tape HS1.out.B hkf).mono ?_
    clear hkf
    rintro e W3 ⟨rfl, hI_, hB_, hk_⟩
    have HS3 := Aside0.mk (HS1.out.next hI_ hk_ hB_)
    have HN3 := Aside0.mk (hk_.blk HN1.out (by omega) (by simp))
    clear hI_ hB_ hk_ HS1 HN1 c1 HI HG HB
    have c3 : W3.cell? ⟨g, 0, none⟩ = some (.pointer (some ⟨gt, 0, none⟩)) := (blk_cell HS3.out.lo 0).trans rfl
    by_cases k4 : k < 4
    · have k4' := eq_true k4
      have hnb : (W3.alloc (.cells #[.int .i64 0, .int .i64 1, .int .i64 2, .int .i64 3, .int .i64 7, .int .i64 10, .int .i64 100, .int .i64 9223372036854775807] 2)).heap[W3.heap.size]? = some (.cells #[.int .i64 0, .int .i64 1, .int .i64 2, .int .i64 3, .int .i64 7, .int .i64 10, .int .i64 100, .int .i64 9223372036854775807] 2 (0, 0)) := blk_new _ _
      have HS4 := Aside0.mk (HS3.out.alloc (.cells #[.int .i64 0, .int .i64 1, .int .i64 2, .int .i64 3, .int .i64 7, .int .i64 10, .int .i64 100, .int .i64 9223372036854775807] 2))
      have c4 : ∀ o : Obj, (W3.alloc o).cell? ⟨g, 0, none⟩ = some (.pointer (some ⟨gt, 0, none⟩)) := fun o => (blk_cell (blk_alloc HS3.out.lo o) 0).trans rfl
      have HNB := Aside0.mk hnb
      have hnl := Aside0.mk (Nat.lt_of_lt_of_le HS3.out.lt HS3.out.keep.1)
      clear hnb c3
      go_wp2_with fail
      obtain ⟨r2, a2, hxf, hx0, hx1, hx2⟩ := interleavemade_loose_expr.nextv L a1 8 (by omega) HL.out.1 HL.out.2 (by omega)
      refine (interleavemade_Tape_Next.calls gt L a1 8 r2 a2 w0 _ HS4.out.tape HS4.out.B hxf).mono ?_
      clear hxf
      rintro e W5 ⟨rfl, hI_, hB_, hk_⟩
      have HS5 := Aside0.mk (HS4.out.next hI_ hk_ hB_)
      have HNB5 := Aside0.mk (hk_.blk HNB.out (by have := hnl.out; omega) (by simp))
      clear hI_ hB_ hk_ HS4 HNB c4
      obtain ⟨q2, hq2⟩ : ∃ q : Nat, (q : Int) = r2 := ⟨r2.toNat, by omega⟩
      subst hq2
      obtain ⟨xn, hxn⟩ := interleavemade_loose_expr.ints8 q2 (by omega)
      have c5 : W5.cell? ⟨W3.heap.size, q2, none⟩ = some (.int .i64 xn) := (blk_cell HNB5.out q2).trans hxn
      have hq8 : (q2 < 8) = True := eq_true (by omega)
      have hq8i : ((q2 : Int) < 8) = True := eq_true (by omega)
      have rz0 : W5.cell? ⟨w.heap.size, 0, none⟩ = some (.int .i64 0) := (blk_cell HS5.out.res 0).trans rfl
      have rz1 : W5.cell? ⟨w.heap.size, 1, none⟩ = some (.int .i64 0) := (blk_cell HS5.out.res 1).trans rfl
      have rz2 : W5.cell? ⟨w.heap.size, 2, none⟩ = some (.string ⟨#[]⟩) := (blk_cell HS5.out.res 2).trans rfl
      have rz3 : W5.cell? ⟨w.heap.size, 3, none⟩ = some (.slice none 0 0) := (blk_cell HS5.out.res 3).trans rfl
      have kz0 : W5.frozen? ⟨w.heap.size, 0, none⟩ = false := blk_frozen HS5.out.res 0
      have kz1 : W5.frozen? ⟨w.heap.size, 1, none⟩ = false := blk_frozen HS5.out.res 1
      have kz2 : W5.frozen? ⟨w.heap.size, 2, none⟩ = false := blk_frozen HS5.out.res 2
      have kz3 : W5.frozen? ⟨w.heap.size, 3, none⟩ = false := blk_frozen HS5.out.res 3
      go_wp2_with fail
      have HF : Aside0 (interleavemade_loose_expr.Fin 0 w0 w (((((W5).setCell ⟨w.heap.size, 0, none⟩ (.int .i64 1)).setCell ⟨w.heap.size, 1, none⟩ (.int .i64 xn)).setCell ⟨w.heap.size, 2, none⟩ (.string ⟨#[]⟩)).setCell ⟨w.heap.size, 3, none⟩ (.slice none 0 0)) gt L 1 xn ⟨#[]⟩ (.slice none 0 0) _ _) := ⟨interleavemade_loose_expr.fin (d := 0) HS5.out hw0 1 xn ⟨#[]⟩ (Kd.V_nil _ _ _ _ _) (interleavemade_loose_expr.Sm.nil _) hx2⟩
      obtain ⟨W9, hW9⟩ : ∃ W9, W9 = ((((W5).setCell ⟨w.heap.size, 0, none⟩ (.int .i64 1)).setCell ⟨w.heap.size, 1, none⟩ (.int .i64 xn)).setCell ⟨w.heap.size, 2, none⟩ (.string ⟨#[]⟩)).setCell ⟨w.heap.size, 3, none⟩ (.slice none 0 0) := ⟨_, rfl⟩
      rw [← hW9] at HF ⊢
      clear hW9
      have h90 : W9.cell? ⟨w.heap.size, 0, none⟩ = some (.int .i64 1) := (blk_cell HF.out.1 0).trans rfl
      have h91 : W9.cell? ⟨w.heap.size, 1, none⟩ = some (.int .i64 xn) := (blk_cell HF.out.1 1).trans rfl
      have h92 : W9.cell? ⟨w.heap.size, 2, none⟩ = some (.string ⟨#[]⟩) := (blk_cell HF.out.1 2).trans rfl
      have h93 : W9.cell? ⟨w.heap.size, 3, none⟩ = some (.slice none 0 0) := (blk_cell HF.out.1 3).trans rfl
      (try simp only [Exit.inBlock, Exit.then])
      refine bodyPost_ret (by simp [results, Try.results25, go_sem, h90, h91, h92, h93]; try rfl) rfl ?_
      exact ⟨_, _, _, _, _, _, rfl, HF.out.2⟩
    · have k4' := eq_false k4
      by_cases k10 : k < 10
      · have k10' := eq_true k10
        have hnb : (W3.alloc (.cells #[.int .i64 0, .int .i64 1, .int .i64 2, .int .i64 3, .int .i64 7, .int .i64 10, .int .i64 100, .int .i64 9223372036854775807] 2)).heap[W3.heap.size]? = some (.cells #[.int .i64 0, .int .i64 1, .int .i64 2, .int .i64 3, .int .i64 7, .int .i64 10, .int .i64 100, .int .i64 9223372036854775807] 2 (0, 0)) := blk_new _ _
        have HS4 := Aside0.mk (HS3.out.alloc (.cells #[.int .i64 0, .int .i64 1, .int .i64 2, .int .i64 3, .int .i64 7, .int .i64 10, .int .i64 100, .int .i64 9223372036854775807] 2))
        have c4 : ∀ o : Obj, (W3.alloc o).cell? ⟨g, 0, none⟩ = some (.pointer (some ⟨gt, 0, none⟩)) := fun o => (blk_cell (blk_alloc HS3.out.lo o) 0).trans rfl
        have HNB := Aside0.mk hnb
        have hnl := Aside0.mk (Nat.lt_of_lt_of_le HS3.out.lt HS3.out.keep.1)
        clear hnb c3
        go_wp2_with fail
        obtain ⟨r2, a2, hxf, hx0, hx1, hx2⟩ := interleavemade_loose_expr.nextv L a1 8 (by omega) HL.out.1 HL.out.2 (by omega)
        refine (interleavemade_Tape_Next.calls gt L a1 8 r2 a2 w0 _ HS4.out.tape HS4.out.B hxf).mono ?_
        clear hxf
        rintro e W5 ⟨rfl, hI_, hB_, hk_⟩
        have HS5 := Aside0.mk (HS4.out.next hI_ hk_ hB_)
        have HNB5 := Aside0.mk (hk_.blk HNB.out (by have := hnl.out; omega) (by simp))
        clear hI_ hB_ hk_ HS4 HNB c4
        obtain ⟨q2, hq2⟩ : ∃ q : Nat, (q : Int) = r2 := ⟨r2.toNat, by omega⟩
        subst hq2
        obtain ⟨xn, hxn⟩ := interleavemade_loose_expr.ints8 q2 (by omega)
        have c5 : W5.cell? ⟨W3.heap.size, q2, none⟩ = some (.int .i64 xn) := (blk_cell HNB5.out q2).trans hxn
        have hq8 : (q2 < 8) = True := eq_true (by omega)
        have hq8i : ((q2 : Int) < 8) = True := eq_true (by omega)
        have rz0 : W5.cell? ⟨w.heap.size, 0, none⟩ = some (.int .i64 0) := (blk_cell HS5.out.res 0).trans rfl
        have rz1 : W5.cell? ⟨w.heap.size, 1, none⟩ = some (.int .i64 0) := (blk_cell HS5.out.res 1).trans rfl
        have rz2 : W5.cell? ⟨w.heap.size, 2, none⟩ = some (.string ⟨#[]⟩) := (blk_cell HS5.out.res 2).trans rfl
        have rz3 : W5.cell? ⟨w.heap.size, 3, none⟩ = some (.slice none 0 0) := (blk_cell HS5.out.res 3).trans rfl
        have kz0 : W5.frozen? ⟨w.heap.size, 0, none⟩ = false := blk_frozen HS5.out.res 0
        have kz1 : W5.frozen? ⟨w.heap.size, 1, none⟩ = false := blk_frozen HS5.out.res 1
        have kz2 : W5.frozen? ⟨w.heap.size, 2, none⟩ = false := blk_frozen HS5.out.res 2
        have kz3 : W5.frozen? ⟨w.heap.size, 3, none⟩ = false := blk_frozen HS5.out.res 3
        go_wp2_with fail
        have HF : Aside0 (interleavemade_loose_expr.Fin 0 w0 w (((((W5).setCell ⟨w.heap.size, 0, none⟩ (.int .i64 1)).setCell ⟨w.heap.size, 1, none⟩ (.int .i64 xn)).setCell ⟨w.heap.size, 2, none⟩ (.string ⟨#[]⟩)).setCell ⟨w.heap.size, 3, none⟩ (.slice none 0 0)) gt L 1 xn ⟨#[]⟩ (.slice none 0 0) _ _) := ⟨interleavemade_loose_expr.fin (d := 0) HS5.out hw0 1 xn ⟨#[]⟩ (Kd.V_nil _ _ _ _ _) (interleavemade_loose_expr.Sm.nil _) hx2⟩
        obtain ⟨W9, hW9⟩ : ∃ W9, W9 = ((((W5).setCell ⟨w.heap.size, 0, none⟩ (.int .i64 1)).setCell ⟨w.heap.size, 1, none⟩ (.int .i64 xn)).setCell ⟨w.heap.size, 2, none⟩ (.string ⟨#[]⟩)).setCell ⟨w.heap.size, 3, none⟩ (.slice none 0 0) := ⟨_, rfl⟩
        rw [← hW9] at HF ⊢
        clear hW9
        have h90 : W9.cell? ⟨w.heap.size, 0, none⟩ = some (.int .i64 1) := (blk_cell HF.out.1 0).trans rfl
        have h91 : W9.cell? ⟨w.heap.size, 1, none⟩ = some (.int .i64 xn) := (blk_cell HF.out.1 1).trans rfl
        have h92 : W9.cell? ⟨w.heap.size, 2, none⟩ = some (.string ⟨#[]⟩) := (blk_cell HF.out.1 2).trans rfl
        have h93 : W9.cell? ⟨w.heap.size, 3, none⟩ = some (.slice none 0 0) := (blk_cell HF.out.1 3).trans rfl
        (try simp only [Exit.inBlock, Exit.then])
        refine bodyPost_ret (by simp [results, Try.results25, go_sem, h90, h91, h92, h93]; try rfl) rfl ?_
        exact ⟨_, _, _, _, _, _, rfl, HF.out.2⟩
      · have k10' := eq_false k10
        have k8' : (k < 8) = False := eq_false (by omega)
        go_wp2_with fail
        refine start_ (n := 19) (S := fun w' => w'.cell? ⟨g, 0, none⟩ = some (.pointer (some ⟨gt, 0, none⟩)) ∧ Aside0 (∃ a_, 0 ≤ a_ ∧ interleavemade_loose_expr.Se w0 w w' g gt L a_ ln lf) ∧ Aside0 (w'.heap[w.heap.size + 1]? = some (.cells #[.string ⟨#[120]⟩, .string ⟨#[121]⟩, .string ⟨#[97]⟩, .string ⟨#[98]⟩, .string ⟨#[118]⟩, .string ⟨#[113]⟩, .string ⟨#[109]⟩, .string ⟨#[116]⟩, .string ⟨#[122, 122]⟩, .string ⟨#[102]⟩] 9 (0, 0)))) (ds := [18]) #[false, false, false, false, false, false, false, false, false, false, false, false, false, false, false, false, false, false, false] (by kernel_rfl) rfl rfl ⟨c3, Aside0.mk ⟨a1, hk2, HS3.out.below (below_drew (Below.refl _ _))⟩, Aside0.mk (blk_drew HN3.out)⟩ (fun hHeld => ?_)
        refine pure_ (i := 0) (N := some 46) (v := ?_) (a' := ?_) #[true, false, false, false, false, false, false, false, false, false, false, false, false, false, false, false, false, false, false] rfl rfl (by kernel_rfl) (fun _ _ _ h => h) (Or.inl ⟨by rfl, ?_⟩) ?_ ?_
        rotate_left
        · intro w'
          go_simp
          with_reducible rfl
        rotate_left
        · simp only [Act.put, List.setIfInBounds_toArray, List.set_cons_zero, List.set_cons_succ, i64_w, i32_w]
          rfl
        refine pure_ (i := 1) (N := some 47) (v := ?_) (a' := ?_) #[true, true, false, false, false, false, false, false, false, false, false, false, false, false, false, false, false, false, false] rfl rfl (by kernel_rfl) (fun _ _ _ h => h) (Or.inl ⟨by rfl, ?_⟩) ?_ ?_
        rotate_left
        · intro w'
          go_simp
          with_reducible rfl
        rotate_left
        · simp only [Act.put, List.setIfInBounds_toArray, List.set_cons_zero, List.set_cons_succ, i64_w, i32_w]
          rfl
        refine pure_ (i := 2) (N := some 48) (v := ?_) (a' := ?_) #[true, true, true, false, false, false, false, false, false, false, false, false, false, false, false, false, false, false, false] rfl rfl (by kernel_rfl) (fun _ _ _ h => h) (Or.inl ⟨by rfl, ?_⟩) ?_ ?_
        rotate_left
        · intro w'
          go_simp
          with_reducible rfl
        rotate_left
        · simp only [Act.put, List.setIfInBounds_toArray, List.set_cons_zero, List.set_cons_succ, i64_w, i32_w]
          rfl
        refine pure_ (i := 3) (N := some 49) (v := ?_) (a' := ?_) #[true, true, true, true, false, false, false, false, false, false, false, false, false, false, false, false, false, false, false] rfl rfl (by kernel_rfl) (fun _ _ _ h => h) (Or.inl ⟨by rfl, ?_⟩) ?_ ?_
        rotate_left
        · intro w'
          go_simp
          with_reducible rfl
        rotate_left
        · simp only [Act.put, List.setIfInBounds_toArray, List.set_cons_zero, List.set_cons_succ, i64_w, i32_w]
          rfl
        refine pure_ (i := 5) (N := some 51) (v := ?_) (a' := ?_) #[true, true, true, true, false, true, false, false, false, false, false, false, false, false, false, false, false, false, false] rfl rfl (by kernel_rfl) (fun _ _ _ h => h) (Or.inl ⟨by rfl, ?_⟩) ?_ ?_
        rotate_left
        · intro w'
          go_simp
          with_reducible rfl
        rotate_left
        · simp only [Act.put, List.setIfInBounds_toArray, List.set_cons_zero, List.set_cons_succ, i64_w, i32_w]
          rfl
        refine pure_ (i := 6) (N := some 52) (v := ?_) (a' := ?_) #[true, true, true, true, false, true, true, false, false, false, false, false, false, false, false, false, false, false, false] rfl rfl (by kernel_rfl) (fun _ _ _ h => h) (Or.inl ⟨by rfl, ?_⟩) ?_ ?_
        rotate_left
        · intro w'
          go_simp
          with_reducible rfl
        rotate_left
        · simp only [Act.put, List.setIfInBounds_toArray, List.set_cons_zero, List.set_cons_succ, i64_w, i32_w]
          rfl
        refine pure_ (i := 8) (N := some 54) (v := ?_) (a' := ?_) #[true, true, true, true, false, true, true, false, true, false, false, false, false, false, false, false, false, false, false] rfl rfl (by kernel_rfl) (fun _ _ _ h => h) (Or.inl ⟨by rfl, ?_⟩) ?_ ?_
        rotate_left
        · intro w'
          go_simp
          with_reducible rfl
        rotate_left
        · simp only [Act.put, List.setIfInBounds_toArray, List.set_cons_zero, List.set_cons_succ, i64_w, i32_w]
          rfl
        refine pure_ (i := 9) (N := some 55) (v := ?_) (a' := ?_) #[true, true, true, true, false, true, true, false, true, true, false, false, false, false, false, false, false, false, false] rfl rfl (by kernel_rfl) (fun _ _ _ h => h) (Or.inl ⟨by rfl, ?_⟩) ?_ ?_
        rotate_left
        · intro w'
          go_simp
          with_reducible rfl
        rotate_left
        · simp only [Act.put, List.setIfInBounds_toArray, List.set_cons_zero, List.set_cons_succ, i64_w, i32_w]
          rfl
        refine pure_ (i := 10) (N := some 56) (v := ?_) (a' := ?_) #[true, true, true, true, false, true, true, false, true, true, true, false, false, false, false, false, false, false, false] rfl rfl (by kernel_rfl) (fun _ _ _ h => h) (Or.inl ⟨by rfl, ?_⟩) ?_ ?_
        rotate_left
        · intro w'
          go_simp
          with_reducible rfl
        rotate_left
        · simp only [Act.put, List.setIfInBounds_toArray, List.set_cons_zero, List.set_cons_succ, i64_w, i32_w]
          rfl
        refine take_ (i := 4) (N := some 50) (v := ?_) (a' := ?_) #[true, true, true, true, true, true, true, false, true, true, true, false, false, false, false, false, false, false, false] rfl rfl (by kernel_rfl) (fun _ _ _ h => h) (Or.inl ⟨by rfl, ?_⟩) hHeld ?_ ?_
        rotate_left
        · rintro w' ⟨s0, s1, s2⟩
          go_simp
          with_reducible rfl
        rotate_left
        · simp only [Act.put, List.setIfInBounds_toArray, List.set_cons_zero, List.set_cons_succ, i64_w, i32_w]
          rfl
        refine take_ (i := 11) (N := some 57) (v := ?_) (a' := ?_) #[true, true, true, true, true, true, true, false, true, true, true, true, false, false, false, false, false, false, false] rfl rfl (by kernel_rfl) (fun _ _ _ h => h) (Or.inl ⟨by rfl, ?_⟩) hHeld ?_ ?_
        rotate_left
        · rintro w' ⟨s0, s1, s2⟩
          go_simp
          with_reducible rfl
        rotate_left
        · simp only [Act.put, List.setIfInBounds_toArray, List.set_cons_zero, List.set_cons_succ, i64_w, i32_w]
          rfl
        refine one_ (i := 7) (N := some 53) #[true, true, true, true, true, true, true, true, true, true, true, true, false, false, false, false, false, false, false] rfl rfl (by kernel_rfl) (by decide) (fun K hK => ?_)
        obtain ⟨t0, t1, t2⟩ := hHeld
        obtain ⟨a_, ha_, hs_⟩ := t1.out
        obtain ⟨r5, a5, hyf, hy0, hy1, hy2⟩ := interleavemade_loose_expr.nextv L a_ 10 ha_ HL.out.1 HL.out.2 (by omega)
        refine goes_ Try.func29 (by kernel_rfl) rfl #[.pointer (some ⟨gt, 0, none⟩), .int .i64 10] (by rfl) rfl rfl (by simp only [List.map_toArray, List.map_cons, List.map_nil]; rfl) ?_
        with_reducible refine (interleavemade_Tape_Next.calls gt L a_ 10 r5 a5 w0 _ hs_.tape hs_.B hyf).mono ?_
        rintro e w5 ⟨rfl, hI_, hB_, hk_⟩
        refine ⟨_, rfl, ?_⟩
        refine hK.out _ _ ⟨keep_cell hk_ t0 hne, ⟨a5, hy2, hs_.next hI_ hk_ hB_⟩, ⟨hk_.blk t2.out (by omega) (by simp)⟩⟩ (fun hHeld => ?_)
        clear hK K
        refine norm_ (a' := ?_) ?_ ?_
        rotate_left
        · show Act.put _ (some 53) _ = _
          simp only [Act.put, List.setIfInBounds_toArray, List.set_cons_zero, List.set_cons_succ, i64_w, i32_w]
          rfl
        refine one_ (i := 12) (N := some 58) #[true, true, true, true, true, true, true, true, true, true, true, true, true, false, false, false, false, false, false] rfl rfl (by kernel_rfl) (by decide) (fun K hK => ?_)
        obtain ⟨t0, t1, t2⟩ := hHeld
        obtain ⟨a_, ha_, hs_⟩ := t1.out
        obtain ⟨r6, a6, hzf, hz0, hz1, hz2⟩ := interleavemade_loose_expr.nextv L a_ 8 ha_ HL.out.1 HL.out.2 (by omega)
        have hw6 : wrap64 (3 + r6) = 3 + r6 := by unfold wrap64; omega
        have hn6 : (3 + r6 = 0) = False := eq_false (by omega)
        have hix := interleavemade_loose_expr.idx10 r5 (3 + r6) hy0 hy1 (by omega)
        have hix0 : (0 ≤ r5.tmod (3 + r6)) = True := eq_true hix.1
        have hix1 : (r5.tmod (3 + r6) < 10) = True := eq_true hix.2
        refine goes_ Try.func29 (by kernel_rfl) rfl #[.pointer (some ⟨gt, 0, none⟩), .int .i64 8] (by rfl) rfl rfl (by simp only [List.map_toArray, List.map_cons, List.map_nil]; rfl) ?_
        with_reducible refine (interleavemade_Tape_Next.calls gt L a_ 8 r6 a6 w0 _ hs_.tape hs_.B hzf).mono ?_
        rintro e w5 ⟨rfl, hI_, hB_, hk_⟩
        refine ⟨_, rfl, ?_⟩
        refine hK.out _ _ ⟨keep_cell hk_ t0 hne, ⟨a6, hz2, hs_.next hI_ hk_ hB_⟩, ⟨hk_.blk t2.out (by omega) (by simp)⟩⟩ (fun hHeld => ?_)
        clear hK K
        refine norm_ (a' := ?_) ?_ ?_
        rotate_left
        · show Act.put _ (some 58) _ = _
          simp only [Act.put, List.setIfInBounds_toArray, List.set_cons_zero, List.set_cons_succ, i64_w, i32_w]
          rfl
        refine pure_ (i := 13) (N := some 59) (v := ?_) (a' := ?_) #[true, true, true, true, true, true, true, true, true, true, true, true, true, true, false, false, false, false, false] rfl rfl (by kernel_rfl) (fun _ _ _ h => h) (Or.inl ⟨by rfl, ?_⟩) ?_ ?_
        rotate_left
        · intro w'
          go_simp
          with_reducible rfl
        rotate_left
        · simp only [Act.put, List.setIfInBounds_toArray, List.set_cons_zero, List.set_cons_succ, i64_w, i32_w]
          rfl
        refine pure_ (i := 14) (N := some 60) (v := ?_) (a' := ?_) #[true, true, true, true, true, true, true, true, true, true, true, true, true, true, true, false, false, false, false] rfl rfl (by kernel_rfl) (fun _ _ _ h => h) (Or.inl ⟨by rfl, ?_⟩) ?_ ?_
        rotate_left
        · intro w'
          go_simp
          with_reducible rfl
        rotate_left
        · simp only [Act.put, List.setIfInBounds_toArray, List.set_cons_zero, List.set_cons_succ, i64_w, i32_w]
          rfl
        refine pure_ (i := 15) (N := some 61) (v := ?_) (a' := ?_) #[true, true, true, true, true, true, true, true, true, true, true, true, true, true, true, true, false, false, false] rfl rfl (by kernel_rfl) (fun _ _ _ h => h) (Or.inl ⟨by rfl, ?_⟩) ?_ ?_
        rotate_left
        · intro w'
          go_simp
          with_reducible rfl
        rotate_left
        · simp only [Act.put, List.setIfInBounds_toArray, List.set_cons_zero, List.set_cons_succ, i64_w, i32_w]
          rfl
        refine one_ (i := 16) (N := some 62) #[true, true, true, true, true, true, true, true, true, true, true, true, true, true, true, true, true, false, false] rfl rfl (by kernel_rfl) (by decide) (fun K hK => ?_)
        obtain ⟨t0, t1, t2⟩ := hHeld
        obtain ⟨sn, hsn⟩ := interleavemade_loose_expr.names10 (r5.tmod (3 + r6)).toNat (by omega)
        have csn : World.cell? _ ⟨w.heap.size + 1, (r5.tmod (3 + r6)).toNat, none⟩ = some (.string sn) := (blk_cell t2.out _).trans hsn
        refine value_ (w1 := ?_) (v := ?_) (by rfl) rfl ?_ ?_
        rotate_left 2
        · go_simp
          constructor
          · rfl
          · rfl
        refine hK.out _ _ ⟨t0, t1, t2⟩ (fun hHeld => ?_)
        clear hK K
        refine norm_ (a' := ?_) ?_ ?_
        rotate_left
        · show Act.put _ (some 62) _ = _
          simp only [Act.put, List.setIfInBounds_toArray, List.set_cons_zero, List.set_cons_succ, i64_w, i32_w]
          rfl
        refine one_ (i := 17) (N := some 63) #[true, true, true, true, true, true, true, true, true, true, true, true, true, true, true, true, true, true, false] rfl rfl (by kernel_rfl) (by decide) (fun K hK => ?_)
        obtain ⟨t0, t1, t2⟩ := hHeld
        obtain ⟨a_, ha_, hs_⟩ := t1.out
        refine goes_ Try.func30 (by kernel_rfl) rfl #[.string sn] (by rfl) rfl rfl (by simp only [List.map_toArray, List.map_cons, List.map_nil]; rfl) ?_
        with_reducible refine (interleavemade_name.calls sn 2 0 sn [] _ rfl).mono ?_
        rintro e w8 ⟨v8, rfl, hR8, hB8⟩
        obtain ⟨A8, c8, rfl⟩ := Kd.R_slice hR8
        have HS8 := Aside0.mk (hs_.below hB8)
        have HV8 := Aside0.mk (Kd.R_V (base' := w0.heap.size) (Kd.R_mono (Kd.R_bound hR8) (fun k hk => hk.2.1)))
        have hlt8 := Aside0.mk (blk_lt hs_.res)
        have HA8 := Aside0.mk ha_
        refine ⟨_, rfl, ?_⟩
        refine hK.out _ _ ⟨(hB8.cell (World.block_lt_of_cell? _ _ t0)).trans t0, ⟨a_, ha_, HS8.out⟩, ⟨blk_below t2.out hB8⟩⟩ (fun hHeld => ?_)
        clear hK K
        refine norm_ (a' := ?_) ?_ ?_
        rotate_left
        · show Act.put _ (some 63) _ = _
          simp only [Act.put, List.setIfInBounds_toArray, List.set_cons_zero, List.set_cons_succ, i64_w, i32_w]
          rfl
        refine last_ (i := 18) (N := none) #[true, true, true, true, true, true, true, true, true, true, true, true, true, true, true, true, true, true, true] rfl rfl (by kernel_rfl) (by decide) (fun K hK => ?_)
        obtain ⟨t0, t1, t2⟩ := hHeld
        have rz0 : w8.cell? ⟨w.heap.size, 0, none⟩ = some (.int .i64 0) := (blk_cell HS8.out.res 0).trans rfl
        have rz1 : w8.cell? ⟨w.heap.size, 1, none⟩ = some (.int .i64 0) := (blk_cell HS8.out.res 1).trans rfl
        have rz2 : w8.cell? ⟨w.heap.size, 2, none⟩ = some (.string ⟨#[]⟩) := (blk_cell HS8.out.res 2).trans rfl
        have rz3 : w8.cell? ⟨w.heap.size, 3, none⟩ = some (.slice none 0 0) := (blk_cell HS8.out.res 3).trans rfl
        have kz0 : w8.frozen? ⟨w.heap.size, 0, none⟩ = false := blk_frozen HS8.out.res 0
        have kz1 : w8.frozen? ⟨w.heap.size, 1, none⟩ = false := blk_frozen HS8.out.res 1
        have kz2 : w8.frozen? ⟨w.heap.size, 2, none⟩ = false := blk_frozen HS8.out.res 2
        have kz3 : w8.frozen? ⟨w.heap.size, 3, none⟩ = false := blk_frozen HS8.out.res 3
        refine skip_ (w1 := ?_) (by rfl) rfl ?_ ?_
        rotate_left
        · go_simp
          rfl
        refine hK.out _ _ ?_
        clear hK K
        refine done_ (by kernel_rfl) ?_
        have HF : Aside0 (interleavemade_loose_expr.Fin 0 w0 w (((((w8).setCell ⟨w.heap.size, 0, none⟩ (.int .i64 2)).setCell ⟨w.heap.size, 1, none⟩ (.int .i64 0)).setCell ⟨w.heap.size, 2, none⟩ (.string sn)).setCell ⟨w.heap.size, 3, none⟩ (.slice A8 0 c8)) gt L 2 0 sn (.slice A8 0 c8) _ _) := ⟨interleavemade_loose_expr.fin (d := 0) HS8.out hw0 2 0 sn (Kd.V_mono HV8.out (fun k hk => by have := hlt8.out; omega)) (interleavemade_loose_expr.Sm.nil _) HA8.out⟩
        obtain ⟨W9, hW9⟩ : ∃ W9, W9 = ((((w8).setCell ⟨w.heap.size, 0, none⟩ (.int .i64 2)).setCell ⟨w.heap.size, 1, none⟩ (.int .i64 0)).setCell ⟨w.heap.size, 2, none⟩ (.string sn)).setCell ⟨w.heap.size, 3, none⟩ (.slice A8 0 c8) := ⟨_, rfl⟩
        rw [← hW9] at HF ⊢
        clear hW9
        have h90 : W9.cell? ⟨w.heap.size, 0, none⟩ = some (.int .i64 2) := (blk_cell HF.out.1 0).trans rfl
        have h91 : W9.cell? ⟨w.heap.size, 1, none⟩ = some (.int .i64 0) := (blk_cell HF.out.1 1).trans rfl
        have h92 : W9.cell? ⟨w.heap.size, 2, none⟩ = some (.string sn) := (blk_cell HF.out.1 2).trans rfl
        have h93 : W9.cell? ⟨w.heap.size, 3, none⟩ = some (.slice A8 0 c8) := (blk_cell HF.out.1 3).trans rfl
        go_wp2_with fail
        (try simp only [Exit.inBlock, Exit.then])
        refine bodyPost_ret (by simp [results, Try.results25, go_sem, h90, h91, h92, h93]; try rfl) rfl ?_
        exact ⟨_, _, _, _, _, _, rfl, HF.out.2⟩
  | succ d ih =>
    intro w0 w g gt L at_ ln lf hd hI hat hL hl hg hne hB
    have IH := Aside0.mk ih
    clear ih
    have HI := Aside0.mk hI
    have HL := Aside0.mk (And.intro hL hl)
    have hgt : gt < w.heap.size := by obtain ⟨_, _, h, _⟩ := hI; exact blk_lt h
    have HG := Aside0.mk hg
    have HB := Aside0.mk hB
    have hw0 := hB.size
    clear hI hL hl hg hB
    have hu36 := Try.underlying36
    have HS1 : Aside0 (interleavemade_loose_expr.Se w0 w ((w.alloc (.cells #[.int .i64 0, .int .i64 0, .string ⟨#[]⟩, .slice none 0 0] 36)).alloc (.cells #[.string ⟨#[120]⟩, .string ⟨#[121]⟩, .string ⟨#[97]⟩, .string ⟨#[98]⟩, .string ⟨#[118]⟩, .string ⟨#[113]⟩, .string ⟨#[109]⟩, .string ⟨#[116]⟩, .string ⟨#[122, 122]⟩, .string ⟨#[102]⟩] 9)) g gt L at_ ln lf) := ⟨(interleavemade_loose_expr.Se.mk (HI.out.alloc _) (blk_alloc HG.out _) (blk_new _ _) (keep_alloc (KeepBut.refl _ _ _) _) (below_alloc HB.out _) hne hgt).alloc _⟩
    have HN1 : Aside0 (((w.alloc (.cells #[.int .i64 0, .int .i64 0, .string ⟨#[]⟩, .slice none 0 0] 36)).alloc (.cells #[.string ⟨#[120]⟩, .string ⟨#[121]⟩, .string ⟨#[97]⟩, .string ⟨#[98]⟩, .string ⟨#[118]⟩, .string ⟨#[113]⟩, .string ⟨#[109]⟩, .string ⟨#[116]⟩, .string ⟨#[122, 122]⟩, .string ⟨#[102]⟩] 9)).heap[w.heap.size + 1]? = some (.cells #[.string ⟨#[120]⟩, .string ⟨#[121]⟩, .string ⟨#[97]⟩, .string ⟨#[98]⟩, .string ⟨#[118]⟩, .string ⟨#[113]⟩, .string ⟨#[109]⟩, .string ⟨#[116]⟩, .string ⟨#[122, 122]⟩, .string ⟨#[102]⟩] 9 (0, 0))) := ⟨by simpa using blk_new (w.alloc (.cells #[.int .i64 0, .int .i64 0, .string ⟨#[]⟩, .slice none 0 0] 36)) (.cells #[.string ⟨#[120]⟩, .string ⟨#[121]⟩, .string ⟨#[97]⟩, .string ⟨#[98]⟩, .string ⟨#[118]⟩, .string ⟨#[113]⟩, .string ⟨#[109]⟩, .string ⟨#[116]⟩, .string ⟨#[122, 122]⟩, .string ⟨#[102]⟩] 9)⟩
    have c1 : ((w.alloc (.cells #[.int .i64 0, .int .i64 0, .string ⟨#[]⟩, .slice none 0 0] 36)).alloc (.cells #[.string ⟨#[120]⟩, .string ⟨#[121]⟩, .string ⟨#[97]⟩, .string ⟨#[98]⟩, .string ⟨#[118]⟩, .string ⟨#[113]⟩, .string ⟨#[109]⟩, .string ⟨#[116]⟩, .string ⟨#[122, 122]⟩, .string ⟨#[102]⟩] 9)).cell? ⟨g, 0, none⟩ = some (.pointer (some ⟨gt, 0, none⟩)) := (blk_cell HS1.out.lo 0).trans rfl
    go_enter Try.func25, Try.ntmps25
    go_wp2_with fail
    obtain ⟨k, a1, hkf, hk0, hk1, hk2⟩ := interleavemade_loose_expr.nextv L at_ 20 (by omega) HL.out.1 HL.out.2 (by omega)
    refine (interleavemade_Tape_Next.calls gt L at_ 20 k a1 w0 _ HS1.out.tape HS1.out.B hkf).mono ?_
    clear hkf
    rintro e W3 ⟨rfl, hI_, hB_, hk_⟩
    have HS3 := Aside0.mk (HS1.out.next hI_ hk_ hB_)
    have HN3 := Aside0.mk (hk_.blk HN1.out (by omega) (by simp))
    clear hI_ hB_ hk_ HS1 HN1 c1 HI HG HB
    have c3 : W3.cell? ⟨g, 0, none⟩ = some (.pointer (some ⟨gt, 0, none⟩)) := (blk_cell HS3.out.lo 0).trans rfl
    have hd0 : (((d + 1 : Nat) : Int) = 0) = False := eq_false (by omega)
    have hd0' : ((d : Int) + 1 = 0) = False := eq_false (by omega)
    have hwd : wrap64 ((d : Int) + 1 - 1) = (d : Int) := by unfold wrap64; omega
    have hwd2 : wrap64 (d : Int) = (d : Int) := by unfold wrap64; omega
    by_cases k4 : k < 4
    · have k4' := eq_true k4
      have hnb : (W3.alloc (.cells #[.int .i64 0, .int .i64 1, .int .i64 2, .int .i64 3, .int .i64 7, .int .i64 10, .int .i64 100, .int .i64 9223372036854775807] 2)).heap[W3.heap.size]? = some (.cells #[.int .i64 0, .int .i64 1, .int .i64 2, .int .i64 3, .int .i64 7, .int .i64 10, .int .i64 100, .int .i64 9223372036854775807] 2 (0, 0)) := blk_new _ _
      have HS4 := Aside0.mk (HS3.out.alloc (.cells #[.int .i64 0, .int .i64 1, .int .i64 2, .int .i64 3, .int .i64 7, .int .i64 10, .int .i64 100, .int .i64 9223372036854775807] 2))
      have c4 : ∀ o : Obj, (W3.alloc o).cell? ⟨g, 0, none⟩ = some (.pointer (some ⟨gt, 0, none⟩)) := fun o => (blk_cell (blk_alloc HS3.out.lo o) 0).trans rfl
      have HNB := Aside0.mk hnb
      have hnl := Aside0.mk (Nat.lt_of_lt_of_le HS3.out.lt HS3.out.keep.1)
      clear hnb c3
      go_wp2_with fail
      obtain ⟨r2, a2, hxf, hx0, hx1, hx2⟩ := interleavemade_loose_expr.nextv L a1 8 (by omega) HL.out.1 HL.out.2 (by omega)
      refine (interleavemade_Tape_Next.calls gt L a1 8 r2 a2 w0 _ HS4.out.tape HS4.out.B hxf).mono ?_
      clear hxf
      rintro e W5 ⟨rfl, hI_, hB_, hk_⟩
      have HS5 := Aside0.mk (HS4.out.next hI_ hk_ hB_)
      have HNB5 := Aside0.mk (hk_.blk HNB.out (by have := hnl.out; omega) (by simp))
      clear hI_ hB_ hk_ HS4 HNB c4
      obtain ⟨q2, hq2⟩ : ∃ q : Nat, (q : Int) = r2 := ⟨r2.toNat, by omega⟩
      subst hq2
      obtain ⟨xn, hxn⟩ := interleavemade_loose_expr.ints8 q2 (by omega)
      have c5 : W5.cell? ⟨W3.heap.size, q2, none⟩ = some (.int .i64 xn) := (blk_cell HNB5.out q2).trans hxn
      have hq8 : (q2 < 8) = True := eq_true (by omega)
      have hq8i : ((q2 : Int) < 8) = True := eq_true (by omega)
      have rz0 : W5.cell? ⟨w.heap.size, 0, none⟩ = some (.int .i64 0) := (blk_cell HS5.out.res 0).trans rfl
      have rz1 : W5.cell? ⟨w.heap.size, 1, none⟩ = some (.int .i64 0) := (blk_cell HS5.out.res 1).trans rfl
      have rz2 : W5.cell? ⟨w.heap.size, 2, none⟩ = some (.string ⟨#[]⟩) := (blk_cell HS5.out.res 2).trans rfl
      have rz3 : W5.cell? ⟨w.heap.size, 3, none⟩ = some (.slice none 0 0) := (blk_cell HS5.out.res 3).trans rfl
      have kz0 : W5.frozen? ⟨w.heap.size, 0, none⟩ = false := blk_frozen HS5.out.res 0
      have kz1 : W5.frozen? ⟨w.heap.size, 1, none⟩ = false := blk_frozen HS5.out.res 1
      have kz2 : W5.frozen? ⟨w.heap.size, 2, none⟩ = false := blk_frozen HS5.out.res 2
      have kz3 : W5.frozen? ⟨w.heap.size, 3, none⟩ = false := blk_frozen HS5.out.res 3
      go_wp2_with fail
      have HF : Aside0 (interleavemade_loose_expr.Fin (d + 1) w0 w (((((W5).setCell ⟨w.heap.size, 0, none⟩ (.int .i64 1)).setCell ⟨w.heap.size, 1, none⟩ (.int .i64 xn)).setCell ⟨w.heap.size, 2, none⟩ (.string ⟨#[]⟩)).setCell ⟨w.heap.size, 3, none⟩ (.slice none 0 0)) gt L 1 xn ⟨#[]⟩ (.slice none 0 0) _ _) := ⟨interleavemade_loose_expr.fin (d := (d + 1)) HS5.out hw0 1 xn ⟨#[]⟩ (Kd.V_nil _ _ _ _ _) (interleavemade_loose_expr.Sm.nil _) hx2⟩
      obtain ⟨W9, hW9⟩ : ∃ W9, W9 = ((((W5).setCell ⟨w.heap.size, 0, none⟩ (.int .i64 1)).setCell ⟨w.heap.size, 1, none⟩ (.int .i64 xn)).setCell ⟨w.heap.size, 2, none⟩ (.string ⟨#[]⟩)).setCell ⟨w.heap.size, 3, none⟩ (.slice none 0 0) := ⟨_, rfl⟩
      rw [← hW9] at HF ⊢
      clear hW9
      have h90 : W9.cell? ⟨w.heap.size, 0, none⟩ = some (.int .i64 1) := (blk_cell HF.out.1 0).trans rfl
      have h91 : W9.cell? ⟨w.heap.size, 1, none⟩ = some (.int .i64 xn) := (blk_cell HF.out.1 1).trans rfl
      have h92 : W9.cell? ⟨w.heap.size, 2, none⟩ = some (.string ⟨#[]⟩) := (blk_cell HF.out.1 2).trans rfl
      have h93 : W9.cell? ⟨w.heap.size, 3, none⟩ = some (.slice none 0 0) := (blk_cell HF.out.1 3).trans rfl
      (try simp only [Exit.inBlock, Exit.then])
      refine bodyPost_ret (by simp [results, Try.results25, go_sem, h90, h91, h92, h93]; try rfl) rfl ?_
      exact ⟨_, _, _, _, _, _, rfl, HF.out.2⟩
    · have k4' := eq_false k4
      by_cases k8 : k < 8
      · have k8' := eq_true k8
        go_wp2_with fail
        refine start_ (n := 19) (S := fun w' => w'.cell? ⟨g, 0, none⟩ = some (.pointer (some ⟨gt, 0, none⟩)) ∧ Aside0 (∃ a_, 0 ≤ a_ ∧ interleavemade_loose_expr.Se w0 w w' g gt L a_ ln lf) ∧ Aside0 (w'.heap[w.heap.size + 1]? = some (.cells #[.string ⟨#[120]⟩, .string ⟨#[121]⟩, .string ⟨#[97]⟩, .string ⟨#[98]⟩, .string ⟨#[118]⟩, .string ⟨#[113]⟩, .string ⟨#[109]⟩, .string ⟨#[116]⟩, .string ⟨#[122, 122]⟩, .string ⟨#[102]⟩] 9 (0, 0)))) (ds := [18]) #[false, false, false, false, false, false, false, false, false, false, false, false, false, false, false, false, false, false, false] (by kernel_rfl) rfl rfl ⟨c3, Aside0.mk ⟨a1, hk2, HS3.out.below (below_drew (Below.refl _ _))⟩, Aside0.mk (blk_drew HN3.out)⟩ (fun hHeld => ?_)
        refine pure_ (i := 0) (N := some 46) (v := ?_) (a' := ?_) #[true, false, false, false, false, false, false, false, false, false, false, false, false, false, false, false, false, false, false] rfl rfl (by kernel_rfl) (fun _ _ _ h => h) (Or.inl ⟨by rfl, ?_⟩) ?_ ?_
        rotate_left
        · intro w'
          go_simp
          with_reducible rfl
        rotate_left
        · simp only [Act.put, List.setIfInBounds_toArray, List.set_cons_zero, List.set_cons_succ, i64_w, i32_w]
          rfl
        refine pure_ (i := 1) (N := some 47) (v := ?_) (a' := ?_) #[true, true, false, false, false, false, false, false, false, false, false, false, false, false, false, false, false, false, false] rfl rfl (by kernel_rfl) (fun _ _ _ h => h) (Or.inl ⟨by rfl, ?_⟩) ?_ ?_
        rotate_left
        · intro w'
          go_simp
          with_reducible rfl
        rotate_left
        · simp only [Act.put, List.setIfInBounds_toArray, List.set_cons_zero, List.set_cons_succ, i64_w, i32_w]
          rfl
        refine pure_ (i := 2) (N := some 48) (v := ?_) (a' := ?_) #[true, true, true, false, false, false, false, false, false, false, false, false, false, false, false, false, false, false, false] rfl rfl (by kernel_rfl) (fun _ _ _ h => h) (Or.inl ⟨by rfl, ?_⟩) ?_ ?_
        rotate_left
        · intro w'
          go_simp
          with_reducible rfl
        rotate_left
        · simp only [Act.put, List.setIfInBounds_toArray, List.set_cons_zero, List.set_cons_succ, i64_w, i32_w]
          rfl
        refine pure_ (i := 3) (N := some 49) (v := ?_) (a' := ?_) #[true, true, true, true, false, false, false, false, false, false, false, false, false, false, false, false, false, false, false] rfl rfl (by kernel_rfl) (fun _ _ _ h => h) (Or.inl ⟨by rfl, ?_⟩) ?_ ?_
        rotate_left
        · intro w'
          go_simp
          with_reducible rfl
        rotate_left
        · simp only [Act.put, List.setIfInBounds_toArray, List.set_cons_zero, List.set_cons_succ, i64_w, i32_w]
          rfl
        refine pure_ (i := 5) (N := some 51) (v := ?_) (a' := ?_) #[true, true, true, true, false, true, false, false, false, false, false, false, false, false, false, false, false, false, false] rfl rfl (by kernel_rfl) (fun _ _ _ h => h) (Or.inl ⟨by rfl, ?_⟩) ?_ ?_
        rotate_left
        · intro w'
          go_simp
          with_reducible rfl
        rotate_left
        · simp only [Act.put, List.setIfInBounds_toArray, List.set_cons_zero, List.set_cons_succ, i64_w, i32_w]
          rfl
        refine pure_ (i := 6) (N := some 52) (v := ?_) (a' := ?_) #[true, true, true, true, false, true, true, false, false, false, false, false, false, false, false, false, false, false, false] rfl rfl (by kernel_rfl) (fun _ _ _ h => h) (Or.inl ⟨by rfl, ?_⟩) ?_ ?_
        rotate_left
        · intro w'
          go_simp
          with_reducible rfl
        rotate_left
        · simp only [Act.put, List.setIfInBounds_toArray, List.set_cons_zero, List.set_cons_succ, i64_w, i32_w]
          rfl
        refine pure_ (i := 8) (N := some 54) (v := ?_) (a' := ?_) #[true, true, true, true, false, true, true, false, true, false, false, false, false, false, false, false, false, false, false] rfl rfl (by kernel_rfl) (fun _ _ _ h => h) (Or.inl ⟨by rfl, ?_⟩) ?_ ?_
        rotate_left
        · intro w'
          go_simp
          with_reducible rfl
        rotate_left
        · simp only [Act.put, List.setIfInBounds_toArray, List.set_cons_zero, List.set_cons_succ, i64_w, i32_w]
          rfl
        refine pure_ (i := 9) (N := some 55) (v := ?_) (a' := ?_) #[true, true, true, true, false, true, true, false, true, true, false, false, false, false, false, false, false, false, false] rfl rfl (by kernel_rfl) (fun _ _ _ h => h) (Or.inl ⟨by rfl, ?_⟩) ?_ ?_
        rotate_left
        · intro w'
          go_simp
          with_reducible rfl
        rotate_left
        · simp only [Act.put, List.setIfInBounds_toArray, List.set_cons_zero, List.set_cons_succ, i64_w, i32_w]
          rfl
        refine pure_ (i := 10) (N := some 56) (v := ?_) (a' := ?_) #[true, true, true, true, false, true, true, false, true, true, true, false, false, false, false, false, false, false, false] rfl rfl (by kernel_rfl) (fun _ _ _ h => h) (Or.inl ⟨by rfl, ?_⟩) ?_ ?_
        rotate_left
        · intro w'
          go_simp
          with_reducible rfl
        rotate_left
        · simp only [Act.put, List.setIfInBounds_toArray, List.set_cons_zero, List.set_cons_succ, i64_w, i32_w]
          rfl
        refine take_ (i := 4) (N := some 50) (v := ?_) (a' := ?_) #[true, true, true, true, true, true, true, false, true, true, true, false, false, false, false, false, false, false, false] rfl rfl (by kernel_rfl) (fun _ _ _ h => h) (Or.inl ⟨by rfl, ?_⟩) hHeld ?_ ?_
        rotate_left
        · rintro w' ⟨s0, s1, s2⟩
          go_simp
          with_reducible rfl
        rotate_left
        · simp only [Act.put, List.setIfInBounds_toArray, List.set_cons_zero, List.set_cons_succ, i64_w, i32_w]
          rfl
        refine take_ (i := 11) (N := some 57) (v := ?_) (a' := ?_) #[true, true, true, true, true, true, true, false, true, true, true, true, false, false, false, false, false, false, false] rfl rfl (by kernel_rfl) (fun _ _ _ h => h) (Or.inl ⟨by rfl, ?_⟩) hHeld ?_ ?_
        rotate_left
        · rintro w' ⟨s0, s1, s2⟩
          go_simp
          with_reducible rfl
        rotate_left
        · simp only [Act.put, List.setIfInBounds_toArray, List.set_cons_zero, List.set_cons_succ, i64_w, i32_w]
          rfl
        refine one_ (i := 7) (N := some 53) #[true, true, true, true, true, true, true, true, true, true, true, true, false, false, false, false, false, false, false] rfl rfl (by kernel_rfl) (by decide) (fun K hK => ?_)
        obtain ⟨t0, t1, t2⟩ := hHeld
        obtain ⟨a_, ha_, hs_⟩ := t1.out
        obtain ⟨r5, a5, hyf, hy0, hy1, hy2⟩ := interleavemade_loose_expr.nextv L a_ 10 ha_ HL.out.1 HL.out.2 (by omega)
        refine goes_ Try.func29 (by kernel_rfl) rfl #[.pointer (some ⟨gt, 0, none⟩), .int .i64 10] (by rfl) rfl rfl (by simp only [List.map_toArray, List.map_cons, List.map_nil]; rfl) ?_
        with_reducible refine (interleavemade_Tape_Next.calls gt L a_ 10 r5 a5 w0 _ hs_.tape hs_.B hyf).mono ?_
        rintro e w5 ⟨rfl, hI_, hB_, hk_⟩
        refine ⟨_, rfl, ?_⟩
        refine hK.out _ _ ⟨keep_cell hk_ t0 hne, ⟨a5, hy2, hs_.next hI_ hk_ hB_⟩, ⟨hk_.blk t2.out (by omega) (by simp)⟩⟩ (fun hHeld => ?_)
        clear hK K
        refine norm_ (a' := ?_) ?_ ?_
        rotate_left
        · show Act.put _ (some 53) _ = _
          simp only [Act.put, List.setIfInBounds_toArray, List.set_cons_zero, List.set_cons_succ, i64_w, i32_w]
          rfl
        refine one_ (i := 12) (N := some 58) #[true, true, true, true, true, true, true, true, true, true, true, true, true, false, false, false, false, false, false] rfl rfl (by kernel_rfl) (by decide) (fun K hK => ?_)
        obtain ⟨t0, t1, t2⟩ := hHeld
        obtain ⟨a_, ha_, hs_⟩ := t1.out
        obtain ⟨r6, a6, hzf, hz0, hz1, hz2⟩ := interleavemade_loose_expr.nextv L a_ 8 ha_ HL.out.1 HL.out.2 (by omega)
        have hw6 : wrap64 (3 + r6) = 3 + r6 := by unfold wrap64; omega
        have hn6 : (3 + r6 = 0) = False := eq_false (by omega)
        have hix := interleavemade_loose_expr.idx10 r5 (3 + r6) hy0 hy1 (by omega)
        have hix0 : (0 ≤ r5.tmod (3 + r6)) = True := eq_true hix.1
        have hix1 : (r5.tmod (3 + r6) < 10) = True := eq_true hix.2
        refine goes_ Try.func29 (by kernel_rfl) rfl #[.pointer (some ⟨gt, 0, none⟩), .int .i64 8] (by rfl) rfl rfl (by simp only [List.map_toArray, List.map_cons, List.map_nil]; rfl) ?_
        with_reducible refine (interleavemade_Tape_Next.calls gt L a_ 8 r6 a6 w0 _ hs_.tape hs_.B hzf).mono ?_
        rintro e w5 ⟨rfl, hI_, hB_, hk_⟩
        refine ⟨_, rfl, ?_⟩
        refine hK.out _ _ ⟨keep_cell hk_ t0 hne, ⟨a6, hz2, hs_.next hI_ hk_ hB_⟩, ⟨hk_.blk t2.out (by omega) (by simp)⟩⟩ (fun hHeld => ?_)
        clear hK K
        refine norm_ (a' := ?_) ?_ ?_
        rotate_left
        · show Act.put _ (some 58) _ = _
          simp only [Act.put, List.setIfInBounds_toArray, List.set_cons_zero, List.set_cons_succ, i64_w, i32_w]
          rfl
        refine pure_ (i := 13) (N := some 59) (v := ?_) (a' := ?_) #[true, true, true, true, true, true, true, true, true, true, true, true, true, true, false, false, false, false, false] rfl rfl (by kernel_rfl) (fun _ _ _ h => h) (Or.inl ⟨by rfl, ?_⟩) ?_ ?_
        rotate_left
        · intro w'
          go_simp
          with_reducible rfl
        rotate_left
        · simp only [Act.put, List.setIfInBounds_toArray, List.set_cons_zero, List.set_cons_succ, i64_w, i32_w]
          rfl
        refine pure_ (i := 14) (N := some 60) (v := ?_) (a' := ?_) #[true, true, true, true, true, true, true, true, true, true, true, true, true, true, true, false, false, false, false] rfl rfl (by kernel_rfl) (fun _ _ _ h => h) (Or.inl ⟨by rfl, ?_⟩) ?_ ?_
        rotate_left
        · intro w'
          go_simp
          with_reducible rfl
        rotate_left
        · simp only [Act.put, List.setIfInBounds_toArray, List.set_cons_zero, List.set_cons_succ, i64_w, i32_w]
          rfl
        refine pure_ (i := 15) (N := some 61) (v := ?_) (a' := ?_) #[true, true, true, true, true, true, true, true, true, true, true, true, true, true, true, true, false, false, false] rfl rfl (by kernel_rfl) (fun _ _ _ h => h) (Or.inl ⟨by rfl, ?_⟩) ?_ ?_
        rotate_left
        · intro w'
          go_simp
          with_reducible rfl
        rotate_left
        · simp only [Act.put, List.setIfInBounds_toArray, List.set_cons_zero, List.set_cons_succ, i64_w, i32_w]
          rfl
        refine one_ (i := 16) (N := some 62) #[true, true, true, true, true, true, true, true, true, true, true, true, true, true, true, true, true, false, false] rfl rfl (by kernel_rfl) (by decide) (fun K hK => ?_)
        obtain ⟨t0, t1, t2⟩ := hHeld
        obtain ⟨sn, hsn⟩ := interleavemade_loose_expr.names10 (r5.tmod (3 + r6)).toNat (by omega)
        have csn : World.cell? _ ⟨w.heap.size + 1, (r5.tmod (3 + r6)).toNat, none⟩ = some (.string sn) := (blk_cell t2.out _).trans hsn
        refine value_ (w1 := ?_) (v := ?_) (by rfl) rfl ?_ ?_
        rotate_left 2
        · go_simp
          constructor
          · rfl
          · rfl
        refine hK.out _ _ ⟨t0, t1, t2⟩ (fun hHeld => ?_)
        clear hK K
        refine norm_ (a' := ?_) ?_ ?_
        rotate_left
        · show Act.put _ (some 62) _ = _
          simp only [Act.put, List.setIfInBounds_toArray, List.set_cons_zero, List.set_cons_succ, i64_w, i32_w]
          rfl
        refine one_ (i := 17) (N := some 63) #[true, true, true, true, true, true, true, true, true, true, true, true, true, true, true, true, true, true, false] rfl rfl (by kernel_rfl) (by decide) (fun K hK => ?_)
        obtain ⟨t0, t1, t2⟩ := hHeld
        obtain ⟨a_, ha_, hs_⟩ := t1.out
        refine goes_ Try.func30 (by kernel_rfl) rfl #[.string sn] (by rfl) rfl rfl (by simp only [List.map_toArray, List.map_cons, List.map_nil]; rfl) ?_
        with_reducible refine (interleavemade_name.calls sn 2 0 sn [] _ rfl).mono ?_
        rintro e w8 ⟨v8, rfl, hR8, hB8⟩
        obtain ⟨A8, c8, rfl⟩ := Kd.R_slice hR8
        have HS8 := Aside0.mk (hs_.below hB8)
        have HV8 := Aside0.mk (Kd.R_V (base' := w0.heap.size) (Kd.R_mono (Kd.R_bound hR8) (fun k hk => hk.2.1)))
        have hlt8 := Aside0.mk (blk_lt hs_.res)
        have HA8 := Aside0.mk ha_
        refine ⟨_, rfl, ?_⟩
        refine hK.out _ _ ⟨(hB8.cell (World.block_lt_of_cell? _ _ t0)).trans t0, ⟨a_, ha_, HS8.out⟩, ⟨blk_below t2.out hB8⟩⟩ (fun hHeld => ?_)
        clear hK K
        refine norm_ (a' := ?_) ?_ ?_
        rotate_left
        · show Act.put _ (some 63) _ = _
          simp only [Act.put, List.setIfInBounds_toArray, List.set_cons_zero, List.set_cons_succ, i64_w, i32_w]
          rfl
        refine last_ (i := 18) (N := none) #[true, true, true, true, true, true, true, true, true, true, true, true, true, true, true, true, true, true, true] rfl rfl (by kernel_rfl) (by decide) (fun K hK => ?_)
        obtain ⟨t0, t1, t2⟩ := hHeld
        have rz0 : w8.cell? ⟨w.heap.size, 0, none⟩ = some (.int .i64 0) := (blk_cell HS8.out.res 0).trans rfl
        have rz1 : w8.cell? ⟨w.heap.size, 1, none⟩ = some (.int .i64 0) := (blk_cell HS8.out.res 1).trans rfl
        have rz2 : w8.cell? ⟨w.heap.size, 2, none⟩ = some (.string ⟨#[]⟩) := (blk_cell HS8.out.res 2).trans rfl
        have rz3 : w8.cell? ⟨w.heap.size, 3, none⟩ = some (.slice none 0 0) := (blk_cell HS8.out.res 3).trans rfl
        have kz0 : w8.frozen? ⟨w.heap.size, 0, none⟩ = false := blk_frozen HS8.out.res 0
        have kz1 : w8.frozen? ⟨w.heap.size, 1, none⟩ = false := blk_frozen HS8.out.res 1
        have kz2 : w8.frozen? ⟨w.heap.size, 2, none⟩ = false := blk_frozen HS8.out.res 2
        have kz3 : w8.frozen? ⟨w.heap.size, 3, none⟩ = false := blk_frozen HS8.out.res 3
        refine skip_ (w1 := ?_) (by rfl) rfl ?_ ?_
        rotate_left
        · go_simp
          rfl
        refine hK.out _ _ ?_
        clear hK K
        refine done_ (by kernel_rfl) ?_
        have HF : Aside0 (interleavemade_loose_expr.Fin (d + 1) w0 w (((((w8).setCell ⟨w.heap.size, 0, none⟩ (.int .i64 2)).setCell ⟨w.heap.size, 1, none⟩ (.int .i64 0)).setCell ⟨w.heap.size, 2, none⟩ (.string sn)).setCell ⟨w.heap.size, 3, none⟩ (.slice A8 0 c8)) gt L 2 0 sn (.slice A8 0 c8) _ _) := ⟨interleavemade_loose_expr.fin (d := (d + 1)) HS8.out hw0 2 0 sn (Kd.V_mono HV8.out (fun k hk => by have := hlt8.out; omega)) (interleavemade_loose_expr.Sm.nil _) HA8.out⟩
        obtain ⟨W9, hW9⟩ : ∃ W9, W9 = ((((w8).setCell ⟨w.heap.size, 0, none⟩ (.int .i64 2)).setCell ⟨w.heap.size, 1, none⟩ (.int .i64 0)).setCell ⟨w.heap.size, 2, none⟩ (.string sn)).setCell ⟨w.heap.size, 3, none⟩ (.slice A8 0 c8) := ⟨_, rfl⟩
        rw [← hW9] at HF ⊢
        clear hW9
        have h90 : W9.cell? ⟨w.heap.size, 0, none⟩ = some (.int .i64 2) := (blk_cell HF.out.1 0).trans rfl
        have h91 : W9.cell? ⟨w.heap.size, 1, none⟩ = some (.int .i64 0) := (blk_cell HF.out.1 1).trans rfl
        have h92 : W9.cell? ⟨w.heap.size, 2, none⟩ = some (.string sn) := (blk_cell HF.out.1 2).trans rfl
        have h93 : W9.cell? ⟨w.heap.size, 3, none⟩ = some (.slice A8 0 c8) := (blk_cell HF.out.1 3).trans rfl
        go_wp2_with fail
        (try simp only [Exit.inBlock, Exit.then])
        refine bodyPost_ret (by simp [results, Try.results25, go_sem, h90, h91, h92, h93]; try rfl) rfl ?_
        exact ⟨_, _, _, _, _, _, rfl, HF.out.2⟩
      · have k8' := eq_false k8
        by_cases k9 : k = 8
        · have k9' := eq_true k9
          go_wp2_with fail
          refine start_ (n := 15) (S := fun w' => w'.cell? ⟨g, 0, none⟩ = some (.pointer (some ⟨gt, 0, none⟩)) ∧ Aside0 (∃ a_, 0 ≤ a_ ∧ interleavemade_loose_expr.Se w0 w w' g gt L a_ ln lf)) (ds := [14]) #[false, false, false, false, false, false, false, false, false, false, false, false, false, false, false] (by kernel_rfl) rfl rfl ⟨c3, Aside0.mk ⟨a1, hk2, HS3.out.below (below_drew (Below.refl _ _))⟩⟩ (fun hHeld => ?_)
          refine pure_ (i := 1) (N := some 68) (v := ?_) (a' := ?_) #[false, true, false, false, false, false, false, false, false, false, false, false, false, false, false] rfl rfl (by kernel_rfl) (fun _ _ _ h => h) (Or.inl ⟨by rfl, ?_⟩) ?_ ?_
          rotate_left
          · intro w'
            go_simp
            with_reducible rfl
          rotate_left
          · simp only [Act.put, List.setIfInBounds_toArray, List.set_cons_zero, List.set_cons_succ, i64_w, i32_w]
            rfl
          refine pure_ (i := 2) (N := some 69) (v := ?_) (a' := ?_) #[false, true, true, false, false, false, false, false, false, false, false, false, false, false, false] rfl rfl (by kernel_rfl) (fun _ _ _ h => h) (Or.inl ⟨by rfl, ?_⟩) ?_ ?_
          rotate_left
          · intro w'
            go_simp
            with_reducible rfl
          rotate_left
          · simp only [Act.put, List.setIfInBounds_toArray, List.set_cons_zero, List.set_cons_succ, i64_w, i32_w]
            rfl
          refine pure_ (i := 3) (N := some 70) (v := ?_) (a' := ?_) #[false, true, true, true, false, false, false, false, false, false, false, false, false, false, false] rfl rfl (by kernel_rfl) (fun _ _ _ h => h) (Or.inl ⟨by rfl, ?_⟩) ?_ ?_
          rotate_left
          · intro w'
            go_simp
            with_reducible rfl
          rotate_left
          · simp only [Act.put, List.setIfInBounds_toArray, List.set_cons_zero, List.set_cons_succ, i64_w, i32_w]
            rfl
          refine pure_ (i := 8) (N := some 75) (v := ?_) (a' := ?_) #[false, true, true, true, false, false, false, false, true, false, false, false, false, false, false] rfl rfl (by kernel_rfl) (fun _ _ _ h => h) (Or.inl ⟨by rfl, ?_⟩) ?_ ?_
          rotate_left
          · intro w'
            go_simp
            with_reducible rfl
          rotate_left
          · simp only [Act.put, List.setIfInBounds_toArray, List.set_cons_zero, List.set_cons_succ, i64_w, i32_w]
            rfl
          refine pure_ (i := 9) (N := some 76) (v := ?_) (a' := ?_) #[false, true, true, true, false, false, false, false, true, true, false, false, false, false, false] rfl rfl (by kernel_rfl) (fun _ _ _ h => h) (Or.inl ⟨by rfl, ?_⟩) ?_ ?_
          rotate_left
          · intro w'
            go_simp
            with_reducible rfl
          rotate_left
          · simp only [Act.put, List.setIfInBounds_toArray, List.set_cons_zero, List.set_cons_succ, i64_w, i32_w]
            rfl
          refine pure_ (i := 10) (N := some 77) (v := ?_) (a' := ?_) #[false, true, true, true, false, false, false, false, true, true, true, false, false, false, false] rfl rfl (by kernel_rfl) (fun _ _ _ h => h) (Or.inl ⟨by rfl, ?_⟩) ?_ ?_
          rotate_left
          · intro w'
            go_simp
            with_reducible rfl
          rotate_left
          · simp only [Act.put, List.setIfInBounds_toArray, List.set_cons_zero, List.set_cons_succ, i64_w, i32_w]
            rfl
          refine take_ (i := 4) (N := some 71) (v := ?_) (a' := ?_) #[false, true, true, true, true, false, false, false, true, true, true, false, false, false, false] rfl rfl (by kernel_rfl) (fun _ _ _ h => h) (Or.inl ⟨by rfl, ?_⟩) hHeld ?_ ?_
          rotate_left
          · rintro w' ⟨s0, s1⟩
            go_simp
            with_reducible rfl
          rotate_left
          · simp only [Act.put, List.setIfInBounds_toArray, List.set_cons_zero, List.set_cons_succ, i64_w, i32_w]
            rfl
          refine join_ (σ := Value × Value × Value × Value × ByteArray × Nat) 2 #[true, true, true, true, true, true, true, true, true, true, true, true, true, false, false] (fun s_ => [(67, s_.1), (72, s_.2.1), (73, s_.2.2.1), (74, .string s_.2.2.2.2.1), (78, s_.2.2.2.1), (79, .slice (some ⟨s_.2.2.2.2.2, 0, none⟩) 1 1)]) (fun s_ w' => (w'.cell? ⟨g, 0, none⟩ = some (.pointer (some ⟨gt, 0, none⟩)) ∧ Aside0 (∃ a_, 0 ≤ a_ ∧ interleavemade_loose_expr.Se w0 w w' g gt L a_ ln lf)) ∧ ∃ l_, Kd.V k36 36 w' w0.heap.size (fun k => w.heap.size < k) (.slice (some ⟨s_.2.2.2.2.2, 0, none⟩) 1 1) l_ ∧ interleavemade_loose_expr.Sm (d + 1) l_) ?_ ?_
          rotate_left
          · intro hCont
            refine two_ (i := 0) (j := 5) (Ni := some 67) (Nj := some 72) #[true, true, true, true, true, false, false, false, true, true, true, false, false, false, false] #[false, true, true, true, true, true, false, false, true, true, true, false, false, false, false] rfl rfl rfl rfl (by kernel_rfl) (by decide) (by decide) (fun K hK => ?_) (fun K hK => ?_)
            · skip
              obtain ⟨t0, t1⟩ := hHeld
              obtain ⟨a_, ha_, hs_⟩ := t1.out
              refine Kd.R_lit_step Kd.string _ 9 ?hg (N := 67) ?hd (xs := ([⟨#[113]⟩, ⟨#[113]⟩, ⟨#[113]⟩, ⟨#[120]⟩, ⟨#[109]⟩] : List ByteArray)) (inner := [.string ⟨#[113]⟩, .string ⟨#[113]⟩, .string ⟨#[113]⟩, .string ⟨#[120]⟩, .string ⟨#[109]⟩]) (ok := fun _ => True) (okp := fun _ => True) ?hr ?hp (fun _ hk => hk) trivial (Below.refl _ _) (Nat.le_refl _) (by simp) ?_; (case hd => rfl); (case hg => rfl); (case hr => first | (go_simp; done) | (go_simp; rfl)); (case hp => exact (Reps.one (show Kd.M Kd.string _ _ _ (⟨#[113]⟩ : ByteArray) [.string (⟨#[113]⟩ : ByteArray)] from rfl) (Reps.one (show Kd.M Kd.string _ _ _ (⟨#[113]⟩ : ByteArray) [.string (⟨#[113]⟩ : ByteArray)] from rfl) (Reps.one (show Kd.M Kd.string _ _ _ (⟨#[113]⟩ : ByteArray) [.string (⟨#[113]⟩ : ByteArray)] from rfl) (Reps.one (show Kd.M Kd.string _ _ _ (⟨#[120]⟩ : ByteArray) [.string (⟨#[120]⟩ : ByteArray)] from rfl) (Reps.one (show Kd.M Kd.string _ _ _ (⟨#[109]⟩ : ByteArray) [.string (⟨#[109]⟩ : ByteArray)] from rfl) (Reps.none _ _)))))))
              intro v67 wa ho67 hb67 hg67 hnew67
              obtain ⟨l67, hl67⟩ : ∃ l67 : List ByteArray, l67 = [⟨#[113]⟩, ⟨#[113]⟩, ⟨#[113]⟩, ⟨#[120]⟩, ⟨#[109]⟩] := ⟨_, rfl⟩
              rw [← hl67] at ho67
              have hlen67 : l67.length = 5 := by rw [hl67]; rfl
              clear hl67
              obtain ⟨ad67, c67, e67⟩ := Kd.R_slice1 ho67 (by omega)
              rw [hlen67] at e67
              subst e67
              obtain ⟨g67, rfl⟩ := Kd.R_head ho67
              have hsz := blk_lt hs_.res
              have HV67 : Aside0 (Kd.V Kd.string 9 wa w0.heap.size (fun k => w.heap.size < k) (.slice (some ⟨g67, 0, none⟩) 5 c67) l67) := ⟨Kd.R_V (Kd.R_mono (Kd.R_bound ho67) (fun k hk => by have := hk.2.1; omega))⟩
              refine hK.out _ _ ⟨(hb67.cell (World.block_lt_of_cell? _ _ t0)).trans t0, ⟨a_, ha_, hs_.below hb67⟩⟩ (fun hHeld => ?_)
              clear hK K
              refine norm_ (a' := ?_) ?_ ?_
              rotate_left
              · show Act.put _ (some 67) _ = _
                simp only [Act.put, List.setIfInBounds_toArray, List.set_cons_zero, List.set_cons_succ, i64_w, i32_w]
                rfl
              refine one_ (i := 5) (N := some 72) #[true, true, true, true, true, true, false, false, true, true, true, false, false, false, false] rfl rfl (by kernel_rfl) (by decide) (fun K hK => ?_)
              obtain ⟨t0, t1⟩ := hHeld
              obtain ⟨a_, ha_, hs_⟩ := t1.out
              obtain ⟨r5, a5, hyf, hy0, hy1, hy2⟩ := interleavemade_loose_expr.nextv L a_ 5 ha_ HL.out.1 HL.out.2 (by omega)
              refine goes_ Try.func29 (by kernel_rfl) rfl #[.pointer (some ⟨gt, 0, none⟩), .int .i64 5] (by rfl) rfl rfl (by simp only [List.map_toArray, List.map_cons, List.map_nil]; rfl) ?_
              with_reducible refine (interleavemade_Tape_Next.calls gt L a_ 5 r5 a5 w0 _ hs_.tape hs_.B hyf).mono ?_
              rintro e w5 ⟨rfl, hI_, hB_, hk_⟩
              refine ⟨_, rfl, ?_⟩
              have hy3 : (0 ≤ r5) = True := eq_true hy0
              have hy4 : (r5 < 5) = True := eq_true hy1
              replace HV67 := Aside0.mk (Kd.V_keep HV67.out hk_ (fun k hk => by omega))
              refine hK.out _ _ ⟨keep_cell hk_ t0 hne, ⟨a5, hy2, hs_.next hI_ hk_ hB_⟩⟩ (fun hHeld => ?_)
              clear hK K
              refine norm_ (a' := ?_) ?_ ?_
              rotate_left
              · show Act.put _ (some 72) _ = _
                simp only [Act.put, List.setIfInBounds_toArray, List.set_cons_zero, List.set_cons_succ, i64_w, i32_w]
                rfl
              refine pure_ (i := 6) (N := some 73) (v := ?_) (a' := ?_) #[true, true, true, true, true, true, true, false, true, true, true, false, false, false, false] rfl rfl (by kernel_rfl) (fun _ _ _ h => h) (Or.inl ⟨by rfl, ?_⟩) ?_ ?_
              rotate_left
              · intro w'
                go_simp
                with_reducible rfl
              rotate_left
              · simp only [Act.put, List.setIfInBounds_toArray, List.set_cons_zero, List.set_cons_succ, i64_w, i32_w]
                rfl
              refine two_ (i := 7) (j := 11) (Ni := some 74) (Nj := some 78) #[true, true, true, true, true, true, true, true, true, true, true, false, false, false, false] #[true, true, true, true, true, true, true, false, true, true, true, true, false, false, false] rfl rfl rfl rfl (by kernel_rfl) (by decide) (by decide) (fun K hK => ?_) (fun K hK => ?_)
              · skip
                obtain ⟨t0, t1⟩ := hHeld
                obtain ⟨_, e67, p67⟩ := Kd.at_string (Kd.V_reads' HV67.out).2.2 r5 hy0 (by rw [hlen67]; omega)
                injection e67 with e67
                subst e67
                obtain ⟨sn, hsn⟩ : ∃ sn, sn = rdOf ByteArray.empty l67 r5 := ⟨_, rfl⟩
                rw [← hsn] at p67
                clear hsn
                have csn : World.cell? w5 ⟨g67, r5.toNat, none⟩ = some (.string sn) := by have h := p67; simpa [Addr.add_lit] using h
                refine value_ (w1 := ?_) (v := ?_) (by rfl) rfl ?_ ?_
                rotate_left 2
                · go_simp
                  constructor
                  · rfl
                  · rfl
                refine hK.out _ _ ⟨t0, t1⟩ (fun hHeld => ?_)
                clear hK K
                refine norm_ (a' := ?_) ?_ ?_
                rotate_left
                · show Act.put _ (some 74) _ = _
                  simp only [Act.put, List.setIfInBounds_toArray, List.set_cons_zero, List.set_cons_succ, i64_w, i32_w]
                  rfl
                refine one_ (i := 11) (N := some 78) #[true, true, true, true, true, true, true, true, true, true, true, true, false, false, false] rfl rfl (by kernel_rfl) (by decide) (fun K hK => ?_)
                obtain ⟨t0, t1⟩ := hHeld
                obtain ⟨a_, ha_, hs_⟩ := t1.out
                refine goes_ Try.func25 (by kernel_rfl) rfl #[.pointer (some ⟨g, 0, none⟩), .int .i64 (wrap64 (d : Int))] (by rfl) rfl rfl (by simp only [List.map_toArray, List.map_cons, List.map_nil]; rfl) ?_
                with_reducible refine (show Calls Try.prog 25 #[.pointer (some ⟨g, 0, none⟩), .int .i64 (wrap64 (d : Int))] _ (interleavemade_loose_expr.Post d w0 _ g gt L) from by (try rw [hwd2]); exact IH.out w0 _ g gt L a_ ln lf (by omega) hs_.tape ha_ HL.out.1 HL.out.2 hs_.lo hne hs_.B).mono ?_
                rintro e w8 ⟨op1, n1, nm1, v1, l1, b1, rfl, hV_, hSm1, hI_, ha1, hk_, hB_⟩
                obtain ⟨A1, c1, rfl⟩ := Kd.V_slice hV_
                have hsz := blk_lt hs_.res
                have HV1 : Aside0 (Kd.V k36 36 w8 w0.heap.size (fun k => w.heap.size < k) (.slice A1 l1.length c1) l1) := ⟨Kd.V_mono hV_ (fun k hk => by omega)⟩
                have HSM := Aside0.mk hSm1
                clear hV_ hSm1
                replace HV67 := Aside0.mk (Kd.V_keep HV67.out hk_ (fun k hk => by omega))
                refine ⟨_, rfl, ?_⟩
                refine hK.out _ _ ⟨keep_cell hk_ t0 hne, ⟨b1, ha1, hs_.next hI_ hk_ hB_⟩⟩ (fun hHeld => ?_)
                clear hK K
                refine norm_ (a' := ?_) ?_ ?_
                rotate_left
                · show Act.put _ (some 78) _ = _
                  simp only [Act.put, List.setIfInBounds_toArray, List.set_cons_zero, List.set_cons_succ, i64_w, i32_w]
                  rfl
                refine one_ (i := 12) (N := some 79) #[true, true, true, true, true, true, true, true, true, true, true, true, true, false, false] rfl rfl (by kernel_rfl) (by decide) (fun K hK => ?_)
                obtain ⟨t0, t1⟩ := hHeld
                obtain ⟨a_, ha_, hs_⟩ := t1.out
                have hsz := blk_lt hs_.res
                have HVo : Aside0 (Kd.V k36 36 (w8.alloc (.cells #[.int .i64 op1, .int .i64 n1, .string nm1, .slice A1 l1.length c1] 36)) w0.heap.size (fun k => w.heap.size < k) (.slice (some ⟨w8.heap.size, 0, none⟩) 1 1) [(⟨op1, n1, nm1, l1⟩ : S36)]) := ⟨Kd.V_mono (interleavemade_loose_expr.oneV w8 w0.heap.size _ (⟨op1, n1, nm1, l1⟩ : S36) HV1.out) (fun k hk => by rcases hk with hk | hk <;> omega)⟩
                refine value_ (w1 := ?_) (v := ?_) (by rfl) rfl ?_ ?_
                rotate_left 2
                · go_simp
                  constructor
                  · rfl
                  · rfl
                replace HV67 := Aside0.mk (Kd.V_alloc HV67.out (.cells #[.int .i64 op1, .int .i64 n1, .string nm1, .slice A1 l1.length c1] 36))
                refine hK.out _ _ ⟨((below_alloc (Below.refl _ _) _).cell (World.block_lt_of_cell? _ _ t0)).trans t0, ⟨a_, ha_, hs_.alloc _⟩⟩ (fun hHeld => ?_)
                clear hK K
                refine norm_ (a' := ?_) ?_ ?_
                rotate_left
                · show Act.put _ (some 79) _ = _
                  simp only [Act.put, List.setIfInBounds_toArray, List.set_cons_zero, List.set_cons_succ, i64_w, i32_w]
                  rfl
                exact norm_ (by first | (simp only [putAll, Act.put, List.setIfInBounds_toArray, List.set_cons_zero, List.set_cons_succ]; done) | (simp only [putAll, Act.put, List.setIfInBounds_toArray, List.set_cons_zero, List.set_cons_succ]; rfl)) (hCont (.slice (some ⟨g67, 0, none⟩) 5 c67, .int .i64 r5, .pointer (some ⟨g67, r5.toNat, none⟩), .agg #[.int .i64 op1, .int .i64 n1, .string nm1, .slice A1 l1.length c1], sn, w8.heap.size) _ ⟨hHeld, [(⟨op1, n1, nm1, l1⟩ : S36)], HVo.out, ⟨by simp, fun y hy => by rw [List.mem_singleton.1 hy]; exact HSM.out⟩⟩)
              · skip
                obtain ⟨t0, t1⟩ := hHeld
                obtain ⟨a_, ha_, hs_⟩ := t1.out
                refine goes_ Try.func25 (by kernel_rfl) rfl #[.pointer (some ⟨g, 0, none⟩), .int .i64 (wrap64 (d : Int))] (by rfl) rfl rfl (by simp only [List.map_toArray, List.map_cons, List.map_nil]; rfl) ?_
                with_reducible refine (show Calls Try.prog 25 #[.pointer (some ⟨g, 0, none⟩), .int .i64 (wrap64 (d : Int))] _ (interleavemade_loose_expr.Post d w0 _ g gt L) from by (try rw [hwd2]); exact IH.out w0 _ g gt L a_ ln lf (by omega) hs_.tape ha_ HL.out.1 HL.out.2 hs_.lo hne hs_.B).mono ?_
                rintro e w8 ⟨op1, n1, nm1, v1, l1, b1, rfl, hV_, hSm1, hI_, ha1, hk_, hB_⟩
                obtain ⟨A1, c1, rfl⟩ := Kd.V_slice hV_
                have hsz := blk_lt hs_.res
                have HV1 : Aside0 (Kd.V k36 36 w8 w0.heap.size (fun k => w.heap.size < k) (.slice A1 l1.length c1) l1) := ⟨Kd.V_mono hV_ (fun k hk => by omega)⟩
                have HSM := Aside0.mk hSm1
                clear hV_ hSm1
                replace HV67 := Aside0.mk (Kd.V_keep HV67.out hk_ (fun k hk => by omega))
                refine ⟨_, rfl, ?_⟩
                refine hK.out _ _ ⟨keep_cell hk_ t0 hne, ⟨b1, ha1, hs_.next hI_ hk_ hB_⟩⟩ (fun hHeld => ?_)
                clear hK K
                refine norm_ (a' := ?_) ?_ ?_
                rotate_left
                · show Act.put _ (some 78) _ = _
                  simp only [Act.put, List.setIfInBounds_toArray, List.set_cons_zero, List.set_cons_succ, i64_w, i32_w]
                  rfl
                refine two_ (i := 7) (j := 12) (Ni := some 74) (Nj := some 79) #[true, true, true, true, true, true, true, true, true, true, true, true, false, false, false] #[true, true, true, true, true, true, true, false, true, true, true, true, true, false, false] rfl rfl rfl rfl (by kernel_rfl) (by decide) (by decide) (fun K hK => ?_) (fun K hK => ?_)
                · skip
                  obtain ⟨t0, t1⟩ := hHeld
                  obtain ⟨_, e67, p67⟩ := Kd.at_string (Kd.V_reads' HV67.out).2.2 r5 hy0 (by rw [hlen67]; omega)
                  injection e67 with e67
                  subst e67
                  obtain ⟨sn, hsn⟩ : ∃ sn, sn = rdOf ByteArray.empty l67 r5 := ⟨_, rfl⟩
                  rw [← hsn] at p67
                  clear hsn
                  have csn : World.cell? w8 ⟨g67, r5.toNat, none⟩ = some (.string sn) := by have h := p67; simpa [Addr.add_lit] using h
                  refine value_ (w1 := ?_) (v := ?_) (by rfl) rfl ?_ ?_
                  rotate_left 2
                  · go_simp
                    constructor
                    · rfl
                    · rfl
                  refine hK.out _ _ ⟨t0, t1⟩ (fun hHeld => ?_)
                  clear hK K
                  refine norm_ (a' := ?_) ?_ ?_
                  rotate_left
                  · show Act.put _ (some 74) _ = _
                    simp only [Act.put, List.setIfInBounds_toArray, List.set_cons_zero, List.set_cons_succ, i64_w, i32_w]
                    rfl
                  refine one_ (i := 12) (N := some 79) #[true, true, true, true, true, true, true, true, true, true, true, true, true, false, false] rfl rfl (by kernel_rfl) (by decide) (fun K hK => ?_)
                  obtain ⟨t0, t1⟩ := hHeld
                  obtain ⟨a_, ha_, hs_⟩ := t1.out
                  have hsz := blk_lt hs_.res
                  have HVo : Aside0 (Kd.V k36 36 (w8.alloc (.cells #[.int .i64 op1, .int .i64 n1, .string nm1, .slice A1 l1.length c1] 36)) w0.heap.size (fun k => w.heap.size < k) (.slice (some ⟨w8.heap.size, 0, none⟩) 1 1) [(⟨op1, n1, nm1, l1⟩ : S36)]) := ⟨Kd.V_mono (interleavemade_loose_expr.oneV w8 w0.heap.size _ (⟨op1, n1, nm1, l1⟩ : S36) HV1.out) (fun k hk => by rcases hk with hk | hk <;> omega)⟩
                  refine value_ (w1 := ?_) (v := ?_) (by rfl) rfl ?_ ?_
                  rotate_left 2
                  · go_simp
                    constructor
                    · rfl
                    · rfl
                  replace HV67 := Aside0.mk (Kd.V_alloc HV67.out (.cells #[.int .i64 op1, .int .i64 n1, .string nm1, .slice A1 l1.length c1] 36))
                  refine hK.out _ _ ⟨((below_alloc (Below.refl _ _) _).cell (World.block_lt_of_cell? _ _ t0)).trans t0, ⟨a_, ha_, hs_.alloc _⟩⟩ (fun hHeld => ?_)
                  clear hK K
                  refine norm_ (a' := ?_) ?_ ?_
                  rotate_left
                  · show Act.put _ (some 79) _ = _
                    simp only [Act.put, List.setIfInBounds_toArray, List.set_cons_zero, List.set_cons_succ, i64_w, i32_w]
                    rfl
                  exact norm_ (by first | (simp only [putAll, Act.put, List.setIfInBounds_toArray, List.set_cons_zero, List.set_cons_succ]; done) | (simp only [putAll, Act.put, List.setIfInBounds_toArray, List.set_cons_zero, List.set_cons_succ]; rfl)) (hCont (.slice (some ⟨g67, 0, none⟩) 5 c67, .int .i64 r5, .pointer (some ⟨g67, r5.toNat, none⟩), .agg #[.int .i64 op1, .int .i64 n1, .string nm1, .slice A1 l1.length c1], sn, w8.heap.size) _ ⟨hHeld, [(⟨op1, n1, nm1, l1⟩ : S36)], HVo.out, ⟨by simp, fun y hy => by rw [List.mem_singleton.1 hy]; exact HSM.out⟩⟩)
                · skip
                  obtain ⟨t0, t1⟩ := hHeld
                  obtain ⟨a_, ha_, hs_⟩ := t1.out
                  have hsz := blk_lt hs_.res
                  have HVo : Aside0 (Kd.V k36 36 (w8.alloc (.cells #[.int .i64 op1, .int .i64 n1, .string nm1, .slice A1 l1.length c1] 36)) w0.heap.size (fun k => w.heap.size < k) (.slice (some ⟨w8.heap.size, 0, none⟩) 1 1) [(⟨op1, n1, nm1, l1⟩ : S36)]) := ⟨Kd.V_mono (interleavemade_loose_expr.oneV w8 w0.heap.size _ (⟨op1, n1, nm1, l1⟩ : S36) HV1.out) (fun k hk => by rcases hk with hk | hk <;> omega)⟩
                  refine value_ (w1 := ?_) (v := ?_) (by rfl) rfl ?_ ?_
                  rotate_left 2
                  · go_simp
                    constructor
                    · rfl
                    · rfl
                  replace HV67 := Aside0.mk (Kd.V_alloc HV67.out (.cells #[.int .i64 op1, .int .i64 n1, .string nm1, .slice A1 l1.length c1] 36))
                  refine hK.out _ _ ⟨((below_alloc (Below.refl _ _) _).cell (World.block_lt_of_cell? _ _ t0)).trans t0, ⟨a_, ha_, hs_.alloc _⟩⟩ (fun hHeld => ?_)
                  clear hK K
                  refine norm_ (a' := ?_) ?_ ?_
                  rotate_left
                  · show Act.put _ (some 79) _ = _
                    simp only [Act.put, List.setIfInBounds_toArray, List.set_cons_zero, List.set_cons_succ, i64_w, i32_w]
                    rfl
                  refine one_ (i := 7) (N := some 74) #[true, true, true, true, true, true, true, true, true, true, true, true, true, false, false] rfl rfl (by kernel_rfl) (by decide) (fun K hK => ?_)
                  obtain ⟨t0, t1⟩ := hHeld
                  obtain ⟨_, e67, p67⟩ := Kd.at_string (Kd.V_reads' HV67.out).2.2 r5 hy0 (by rw [hlen67]; omega)
                  injection e67 with e67
                  subst e67
                  obtain ⟨sn, hsn⟩ : ∃ sn, sn = rdOf ByteArray.empty l67 r5 := ⟨_, rfl⟩
                  rw [← hsn] at p67
                  clear hsn
                  have csn : World.cell? (w8.alloc (.cells #[.int .i64 op1, .int .i64 n1, .string nm1, .slice A1 l1.length c1] 36)) ⟨g67, r5.toNat, none⟩ = some (.string sn) := by have h := p67; simpa [Addr.add_lit] using h
                  refine value_ (w1 := ?_) (v := ?_) (by rfl) rfl ?_ ?_
                  rotate_left 2
                  · go_simp
                    constructor
                    · rfl
                    · rfl
                  refine hK.out _ _ ⟨t0, t1⟩ (fun hHeld => ?_)
                  clear hK K
                  refine norm_ (a' := ?_) ?_ ?_
                  rotate_left
                  · show Act.put _ (some 74) _ = _
                    simp only [Act.put, List.setIfInBounds_toArray, List.set_cons_zero, List.set_cons_succ, i64_w, i32_w]
                    rfl
                  exact norm_ (by first | (simp only [putAll, Act.put, List.setIfInBounds_toArray, List.set_cons_zero, List.set_cons_succ]; done) | (simp only [putAll, Act.put, List.setIfInBounds_toArray, List.set_cons_zero, List.set_cons_succ]; rfl)) (hCont (.slice (some ⟨g67, 0, none⟩) 5 c67, .int .i64 r5, .pointer (some ⟨g67, r5.toNat, none⟩), .agg #[.int .i64 op1, .int .i64 n1, .string nm1, .slice A1 l1.length c1], sn, w8.heap.size) _ ⟨hHeld, [(⟨op1, n1, nm1, l1⟩ : S36)], HVo.out, ⟨by simp, fun y hy => by rw [List.mem_singleton.1 hy]; exact HSM.out⟩⟩)
            · skip
              obtain ⟨t0, t1⟩ := hHeld
              obtain ⟨a_, ha_, hs_⟩ := t1.out
              obtain ⟨r5, a5, hyf, hy0, hy1, hy2⟩ := interleavemade_loose_expr.nextv L a_ 5 ha_ HL.out.1 HL.out.2 (by omega)
              refine goes_ Try.func29 (by kernel_rfl) rfl #[.pointer (some ⟨gt, 0, none⟩), .int .i64 5] (by rfl) rfl rfl (by simp only [List.map_toArray, List.map_cons, List.map_nil]; rfl) ?_
              with_reducible refine (interleavemade_Tape_Next.calls gt L a_ 5 r5 a5 w0 _ hs_.tape hs_.B hyf).mono ?_
              rintro e w5 ⟨rfl, hI_, hB_, hk_⟩
              refine ⟨_, rfl, ?_⟩
              have hy3 : (0 ≤ r5) = True := eq_true hy0
              have hy4 : (r5 < 5) = True := eq_true hy1
              refine hK.out _ _ ⟨keep_cell hk_ t0 hne, ⟨a5, hy2, hs_.next hI_ hk_ hB_⟩⟩ (fun hHeld => ?_)
              clear hK K
              refine norm_ (a' := ?_) ?_ ?_
              rotate_left
              · show Act.put _ (some 72) _ = _
                simp only [Act.put, List.setIfInBounds_toArray, List.set_cons_zero, List.set_cons_succ, i64_w, i32_w]
                rfl
              refine two_ (i := 0) (j := 11) (Ni := some 67) (Nj := some 78) #[true, true, true, true, true, true, false, false, true, true, true, false, false, false, false] #[false, true, true, true, true, true, false, false, true, true, true, true, false, false, false] rfl rfl rfl rfl (by kernel_rfl) (by decide) (by decide) (fun K hK => ?_) (fun K hK => ?_)
              · skip
                obtain ⟨t0, t1⟩ := hHeld
                obtain ⟨a_, ha_, hs_⟩ := t1.out
                refine Kd.R_lit_step Kd.string _ 9 ?hg (N := 67) ?hd (xs := ([⟨#[113]⟩, ⟨#[113]⟩, ⟨#[113]⟩, ⟨#[120]⟩, ⟨#[109]⟩] : List ByteArray)) (inner := [.string ⟨#[113]⟩, .string ⟨#[113]⟩, .string ⟨#[113]⟩, .string ⟨#[120]⟩, .string ⟨#[109]⟩]) (ok := fun _ => True) (okp := fun _ => True) ?hr ?hp (fun _ hk => hk) trivial (Below.refl _ _) (Nat.le_refl _) (by simp) ?_; (case hd => rfl); (case hg => rfl); (case hr => first | (go_simp; done) | (go_simp; rfl)); (case hp => exact (Reps.one (show Kd.M Kd.string _ _ _ (⟨#[113]⟩ : ByteArray) [.string (⟨#[113]⟩ : ByteArray)] from rfl) (Reps.one (show Kd.M Kd.string _ _ _ (⟨#[113]⟩ : ByteArray) [.string (⟨#[113]⟩ : ByteArray)] from rfl) (Reps.one (show Kd.M Kd.string _ _ _ (⟨#[113]⟩ : ByteArray) [.string (⟨#[113]⟩ : ByteArray)] from rfl) (Reps.one (show Kd.M Kd.string _ _ _ (⟨#[120]⟩ : ByteArray) [.string (⟨#[120]⟩ : ByteArray)] from rfl) (Reps.one (show Kd.M Kd.string _ _ _ (⟨#[109]⟩ : ByteArray) [.string (⟨#[109]⟩ : ByteArray)] from rfl) (Reps.none _ _)))))))
                intro v67 wa ho67 hb67 hg67 hnew67
                obtain ⟨l67, hl67⟩ : ∃ l67 : List ByteArray, l67 = [⟨#[113]⟩, ⟨#[113]⟩, ⟨#[113]⟩, ⟨#[120]⟩, ⟨#[109]⟩] := ⟨_, rfl⟩
                rw [← hl67] at ho67
                have hlen67 : l67.length = 5 := by rw [hl67]; rfl
                clear hl67
                obtain ⟨ad67, c67, e67⟩ := Kd.R_slice1 ho67 (by omega)
                rw [hlen67] at e67
                subst e67
                obtain ⟨g67, rfl⟩ := Kd.R_head ho67
                have hsz := blk_lt hs_.res
                have HV67 : Aside0 (Kd.V Kd.string 9 wa w0.heap.size (fun k => w.heap.size < k) (.slice (some ⟨g67, 0, none⟩) 5 c67) l67) := ⟨Kd.R_V (Kd.R_mono (Kd.R_bound ho67) (fun k hk => by have := hk.2.1; omega))⟩
                refine hK.out _ _ ⟨(hb67.cell (World.block_lt_of_cell? _ _ t0)).trans t0, ⟨a_, ha_, hs_.below hb67⟩⟩ (fun hHeld => ?_)
                clear hK K
                refine norm_ (a' := ?_) ?_ ?_
                rotate_left
                · show Act.put _ (some 67) _ = _
                  simp only [Act.put, List.setIfInBounds_toArray, List.set_cons_zero, List.set_cons_succ, i64_w, i32_w]
                  rfl
                refine pure_ (i := 6) (N := some 73) (v := ?_) (a' := ?_) #[true, true, true, true, true, true, true, false, true, true, true, false, false, false, false] rfl rfl (by kernel_rfl) (fun _ _ _ h => h) (Or.inl ⟨by rfl, ?_⟩) ?_ ?_
                rotate_left
                · intro w'
                  go_simp
                  with_reducible rfl
                rotate_left
                · simp only [Act.put, List.setIfInBounds_toArray, List.set_cons_zero, List.set_cons_succ, i64_w, i32_w]
                  rfl
                refine two_ (i := 7) (j := 11) (Ni := some 74) (Nj := some 78) #[true, true, true, true, true, true, true, true, true, true, true, false, false, false, false] #[true, true, true, true, true, true, true, false, true, true, true, true, false, false, false] rfl rfl rfl rfl (by kernel_rfl) (by decide) (by decide) (fun K hK => ?_) (fun K hK => ?_)
                · skip
                  obtain ⟨t0, t1⟩ := hHeld
                  obtain ⟨_, e67, p67⟩ := Kd.at_string (Kd.V_reads' HV67.out).2.2 r5 hy0 (by rw [hlen67]; omega)
                  injection e67 with e67
                  subst e67
                  obtain ⟨sn, hsn⟩ : ∃ sn, sn = rdOf ByteArray.empty l67 r5 := ⟨_, rfl⟩
                  rw [← hsn] at p67
                  clear hsn
                  have csn : World.cell? wa ⟨g67, r5.toNat, none⟩ = some (.string sn) := by have h := p67; simpa [Addr.add_lit] using h
                  refine value_ (w1 := ?_) (v := ?_) (by rfl) rfl ?_ ?_
                  rotate_left 2
                  · go_simp
                    constructor
                    · rfl
                    · rfl
                  refine hK.out _ _ ⟨t0, t1⟩ (fun hHeld => ?_)
                  clear hK K
                  refine norm_ (a' := ?_) ?_ ?_
                  rotate_left
                  · show Act.put _ (some 74) _ = _
                    simp only [Act.put, List.setIfInBounds_toArray, List.set_cons_zero, List.set_cons_succ, i64_w, i32_w]
                    rfl
                  refine one_ (i := 11) (N := some 78) #[true, true, true, true, true, true, true, true, true, true, true, true, false, false, false] rfl rfl (by kernel_rfl) (by decide) (fun K hK => ?_)
                  obtain ⟨t0, t1⟩ := hHeld
                  obtain ⟨a_, ha_, hs_⟩ := t1.out
                  refine goes_ Try.func25 (by kernel_rfl) rfl #[.pointer (some ⟨g, 0, none⟩), .int .i64 (wrap64 (d : Int))] (by rfl) rfl rfl (by simp only [List.map_toArray, List.map_cons, List.map_nil]; rfl) ?_
                  with_reducible refine (show Calls Try.prog 25 #[.pointer (some ⟨g, 0, none⟩), .int .i64 (wrap64 (d : Int))] _ (interleavemade_loose_expr.Post d w0 _ g gt L) from by (try rw [hwd2]); exact IH.out w0 _ g gt L a_ ln lf (by omega) hs_.tape ha_ HL.out.1 HL.out.2 hs_.lo hne hs_.B).mono ?_
                  rintro e w8 ⟨op1, n1, nm1, v1, l1, b1, rfl, hV_, hSm1, hI_, ha1, hk_, hB_⟩
                  obtain ⟨A1, c1, rfl⟩ := Kd.V_slice hV_
                  have hsz := blk_lt hs_.res
                  have HV1 : Aside0 (Kd.V k36 36 w8 w0.heap.size (fun k => w.heap.size < k) (.slice A1 l1.length c1) l1) := ⟨Kd.V_mono hV_ (fun k hk => by omega)⟩
                  have HSM := Aside0.mk hSm1
                  clear hV_ hSm1
                  replace HV67 := Aside0.mk (Kd.V_keep HV67.out hk_ (fun k hk => by omega))
                  refine ⟨_, rfl, ?_⟩
                  refine hK.out _ _ ⟨keep_cell hk_ t0 hne, ⟨b1, ha1, hs_.next hI_ hk_ hB_⟩⟩ (fun hHeld => ?_)
                  clear hK K
                  refine norm_ (a' := ?_) ?_ ?_
                  rotate_left
                  · show Act.put _ (some 78) _ = _
                    simp only [Act.put, List.setIfInBounds_toArray, List.set_cons_zero, List.set_cons_succ, i64_w, i32_w]
                    rfl
                  refine one_ (i := 12) (N := some 79) #[true, true, true, true, true, true, true, true, true, true, true, true, true, false, false] rfl rfl (by kernel_rfl) (by decide) (fun K hK => ?_)
                  obtain ⟨t0, t1⟩ := hHeld
                  obtain ⟨a_, ha_, hs_⟩ := t1.out
                  have hsz := blk_lt hs_.res
                  have HVo : Aside0 (Kd.V k36 36 (w8.alloc (.cells #[.int .i64 op1, .int .i64 n1, .string nm1, .slice A1 l1.length c1] 36)) w0.heap.size (fun k => w.heap.size < k) (.slice (some ⟨w8.heap.size, 0, none⟩) 1 1) [(⟨op1, n1, nm1, l1⟩ : S36)]) := ⟨Kd.V_mono (interleavemade_loose_expr.oneV w8 w0.heap.size _ (⟨op1, n1, nm1, l1⟩ : S36) HV1.out) (fun k hk => by rcases hk with hk | hk <;> omega)⟩
                  refine value_ (w1 := ?_) (v := ?_) (by rfl) rfl ?_ ?_
                  rotate_left 2
                  · go_simp
                    constructor
                    · rfl
                    · rfl
                  replace HV67 := Aside0.mk (Kd.V_alloc HV67.out (.cells #[.int .i64 op1, .int .i64 n1, .string nm1, .slice A1 l1.length c1] 36))
                  refine hK.out _ _ ⟨((below_alloc (Below.refl _ _) _).cell (World.block_lt_of_cell? _ _ t0)).trans t0, ⟨a_, ha_, hs_.alloc _⟩⟩ (fun hHeld => ?_)
                  clear hK K
                  refine norm_ (a' := ?_) ?_ ?_
                  rotate_left
                  · show Act.put _ (some 79) _ = _
                    simp only [Act.put, List.setIfInBounds_toArray, List.set_cons_zero, List.set_cons_succ, i64_w, i32_w]
                    rfl
                  exact norm_ (by first | (simp only [putAll, Act.put, List.setIfInBounds_toArray, List.set_cons_zero, List.set_cons_succ]; done) | (simp only [putAll, Act.put, List.setIfInBounds_toArray, List.set_cons_zero, List.set_cons_succ]; rfl)) (hCont (.slice (some ⟨g67, 0, none⟩) 5 c67, .int .i64 r5, .pointer (some ⟨g67, r5.toNat, none⟩), .agg #[.int .i64 op1, .int .i64 n1, .string nm1, .slice A1 l1.length c1], sn, w8.heap.size) _ ⟨hHeld, [(⟨op1, n1, nm1, l1⟩ : S36)], HVo.out, ⟨by simp, fun y hy => by rw [List.mem_singleton.1 hy]; exact HSM.out⟩⟩)
                · skip
                  obtain ⟨t0, t1⟩ := hHeld
                  obtain ⟨a_, ha_, hs_⟩ := t1.out
                  refine goes_ Try.func25 (by kernel_rfl) rfl #[.pointer (some ⟨g, 0, none⟩), .int .i64 (wrap64 (d : Int))] (by rfl) rfl rfl (by simp only [List.map_toArray, List.map_cons, List.map_nil]; rfl) ?_
                  with_reducible refine (show Calls Try.prog 25 #[.pointer (some ⟨g, 0, none⟩), .int .i64 (wrap64 (d : Int))] _ (interleavemade_loose_expr.Post d w0 _ g gt L) from by (try rw [hwd2]); exact IH.out w0 _ g gt L a_ ln lf (by omega) hs_.tape ha_ HL.out.1 HL.out.2 hs_.lo hne hs_.B).mono ?_
                  rintro e w8 ⟨op1, n1, nm1, v1, l1, b1, rfl, hV_, hSm1, hI_, ha1, hk_, hB_⟩
                  obtain ⟨A1, c1, rfl⟩ := Kd.V_slice hV_
                  have hsz := blk_lt hs_.res
                  have HV1 : Aside0 (Kd.V k36 36 w8 w0.heap.size (fun k => w.heap.size < k) (.slice A1 l1.length c1) l1) := ⟨Kd.V_mono hV_ (fun k hk => by omega)⟩
                  have HSM := Aside0.mk hSm1
                  clear hV_ hSm1
                  replace HV67 := Aside0.mk (Kd.V_keep HV67.out hk_ (fun k hk => by omega))
                  refine ⟨_, rfl, ?_⟩
                  refine hK.out _ _ ⟨keep_cell hk_ t0 hne, ⟨b1, ha1, hs_.next hI_ hk_ hB_⟩⟩ (fun hHeld => ?_)
                  clear hK K
                  refine norm_ (a' := ?_) ?_ ?_
                  rotate_left
                  · show Act.put _ (some 78) _ = _
                    simp only [Act.put, List.setIfInBounds_toArray, List.set_cons_zero, List.set_cons_succ, i64_w, i32_w]
                    rfl
                  refine two_ (i := 7) (j := 12) (Ni := some 74) (Nj := some 79) #[true, true, true, true, true, true, true, true, true, true, true, true, false, false, false] #[true, true, true, true, true, true, true, false, true, true, true, true, true, false, false] rfl rfl rfl rfl (by kernel_rfl) (by decide) (by decide) (fun K hK => ?_) (fun K hK => ?_)
                  · skip
                    obtain ⟨t0, t1⟩ := hHeld
                    obtain ⟨_, e67, p67⟩ := Kd.at_string (Kd.V_reads' HV67.out).2.2 r5 hy0 (by rw [hlen67]; omega)
                    injection e67 with e67
                    subst e67
                    obtain ⟨sn, hsn⟩ : ∃ sn, sn = rdOf ByteArray.empty l67 r5 := ⟨_, rfl⟩
                    rw [← hsn] at p67
                    clear hsn
                    have csn : World.cell? w8 ⟨g67, r5.toNat, none⟩ = some (.string sn) := by have h := p67; simpa [Addr.add_lit] using h
                    refine value_ (w1 := ?_) (v := ?_) (by rfl) rfl ?_ ?_
                    rotate_left 2
                    · go_simp
                      constructor
                      · rfl
                      · rfl
                    refine hK.out _ _ ⟨t0, t1⟩ (fun hHeld => ?_)
                    clear hK K
                    refine norm_ (a' := ?_) ?_ ?_
                    rotate_left
                    · show Act.put _ (some 74) _ = _
                      simp only [Act.put, List.setIfInBounds_toArray, List.set_cons_zero, List.set_cons_succ, i64_w, i32_w]
                      rfl
                    refine one_ (i := 12) (N := some 79) #[true, true, true, true, true, true, true, true, true, true, true, true, true, false, false] rfl rfl (by kernel_rfl) (by decide) (fun K hK => ?_)
                    obtain ⟨t0, t1⟩ := hHeld
                    obtain ⟨a_, ha_, hs_⟩ := t1.out
                    have hsz := blk_lt hs_.res
                    have HVo : Aside0 (Kd.V k36 36 (w8.alloc (.cells #[.int .i64 op1, .int .i64 n1, .string nm1, .slice A1 l1.length c1] 36)) w0.heap.size (fun k => w.heap.size < k) (.slice (some ⟨w8.heap.size, 0, none⟩) 1 1) [(⟨op1, n1, nm1, l1⟩ : S36)]) := ⟨Kd.V_mono (interleavemade_loose_expr.oneV w8 w0.heap.size _ (⟨op1, n1, nm1, l1⟩ : S36) HV1.out) (fun k hk => by rcases hk with hk | hk <;> omega)⟩
                    refine value_ (w1 := ?_) (v := ?_) (by rfl) rfl ?_ ?_
                    rotate_left 2
                    · go_simp
                      constructor
                      · rfl
                      · rfl
                    replace HV67 := Aside0.mk (Kd.V_alloc HV67.out (.cells #[.int .i64 op1, .int .i64 n1, .string nm1, .slice A1 l1.length c1] 36))
                    refine hK.out _ _ ⟨((below_alloc (Below.refl _ _) _).cell (World.block_lt_of_cell? _ _ t0)).trans t0, ⟨a_, ha_, hs_.alloc _⟩⟩ (fun hHeld => ?_)
                    clear hK K
                    refine norm_ (a' := ?_) ?_ ?_
                    rotate_left
                    · show Act.put _ (some 79) _ = _
                      simp only [Act.put, List.setIfInBounds_toArray, List.set_cons_zero, List.set_cons_succ, i64_w, i32_w]
                      rfl
                    exact norm_ (by first | (simp only [putAll, Act.put, List.setIfInBounds_toArray, List.set_cons_zero, List.set_cons_succ]; done) | (simp only [putAll, Act.put, List.setIfInBounds_toArray, List.set_cons_zero, List.set_cons_succ]; rfl)) (hCont (.slice (some ⟨g67, 0, none⟩) 5 c67, .int .i64 r5, .pointer (some ⟨g67, r5.toNat, none⟩), .agg #[.int .i64 op1, .int .i64 n1, .string nm1, .slice A1 l1.length c1], sn, w8.heap.size) _ ⟨hHeld, [(⟨op1, n1, nm1, l1⟩ : S36)], HVo.out, ⟨by simp, fun y hy => by rw [List.mem_singleton.1 hy]; exact HSM.out⟩⟩)
                  · skip
                    obtain ⟨t0, t1⟩ := hHeld
                    obtain ⟨a_, ha_, hs_⟩ := t1.out
                    have hsz := blk_lt hs_.res
                    have HVo : Aside0 (Kd.V k36 36 (w8.alloc (.cells #[.int .i64 op1, .int .i64 n1, .string nm1, .slice A1 l1.length c1] 36)) w0.heap.size (fun k => w.heap.size < k) (.slice (some ⟨w8.heap.size, 0, none⟩) 1 1) [(⟨op1, n1, nm1, l1⟩ : S36)]) := ⟨Kd.V_mono (interleavemade_loose_expr.oneV w8 w0.heap.size _ (⟨op1, n1, nm1, l1⟩ : S36) HV1.out) (fun k hk => by rcases hk with hk | hk <;> omega)⟩
                    refine value_ (w1 := ?_) (v := ?_) (by rfl) rfl ?_ ?_
                    rotate_left 2
                    · go_simp
                      constructor
                      · rfl
                      · rfl
                    replace HV67 := Aside0.mk (Kd.V_alloc HV67.out (.cells #[.int .i64 op1, .int .i64 n1, .string nm1, .slice A1 l1.length c1] 36))
                    refine hK.out _ _ ⟨((below_alloc (Below.refl _ _) _).cell (World.block_lt_of_cell? _ _ t0)).trans t0, ⟨a_, ha_, hs_.alloc _⟩⟩ (fun hHeld => ?_)
                    clear hK K
                    refine norm_ (a' := ?_) ?_ ?_
                    rotate_left
                    · show Act.put _ (some 79) _ = _
                      simp only [Act.put, List.setIfInBounds_toArray, List.set_cons_zero, List.set_cons_succ, i64_w, i32_w]
                      rfl
                    refine one_ (i := 7) (N := some 74) #[true, true, true, true, true, true, true, true, true, true, true, true, true, false, false] rfl rfl (by kernel_rfl) (by decide) (fun K hK => ?_)
                    obtain ⟨t0, t1⟩ := hHeld
                    obtain ⟨_, e67, p67⟩ := Kd.at_string (Kd.V_reads' HV67.out).2.2 r5 hy0 (by rw [hlen67]; omega)
                    injection e67 with e67
                    subst e67
                    obtain ⟨sn, hsn⟩ : ∃ sn, sn = rdOf ByteArray.empty l67 r5 := ⟨_, rfl⟩
                    rw [← hsn] at p67
                    clear hsn
                    have csn : World.cell? (w8.alloc (.cells #[.int .i64 op1, .int .i64 n1, .string nm1, .slice A1 l1.length c1] 36)) ⟨g67, r5.toNat, none⟩ = some (.string sn) := by have h := p67; simpa [Addr.add_lit] using h
                    refine value_ (w1 := ?_) (v := ?_) (by rfl) rfl ?_ ?_
                    rotate_left 2
                    · go_simp
                      constructor
                      · rfl
                      · rfl
                    refine hK.out _ _ ⟨t0, t1⟩ (fun hHeld => ?_)
                    clear hK K
                    refine norm_ (a' := ?_) ?_ ?_
                    rotate_left
                    · show Act.put _ (some 74) _ = _
                      simp only [Act.put, List.setIfInBounds_toArray, List.set_cons_zero, List.set_cons_succ, i64_w, i32_w]
                      rfl
                    exact norm_ (by first | (simp only [putAll, Act.put, List.setIfInBounds_toArray, List.set_cons_zero, List.set_cons_succ]; done) | (simp only [putAll, Act.put, List.setIfInBounds_toArray, List.set_cons_zero, List.set_cons_succ]; rfl)) (hCont (.slice (some ⟨g67, 0, none⟩) 5 c67, .int .i64 r5, .pointer (some ⟨g67, r5.toNat, none⟩), .agg #[.int .i64 op1, .int .i64 n1, .string nm1, .slice A1 l1.length c1], sn, w8.heap.size) _ ⟨hHeld, [(⟨op1, n1, nm1, l1⟩ : S36)], HVo.out, ⟨by simp, fun y hy => by rw [List.mem_singleton.1 hy]; exact HSM.out⟩⟩)
              · skip
                obtain ⟨t0, t1⟩ := hHeld
                obtain ⟨a_, ha_, hs_⟩ := t1.out
                refine goes_ Try.func25 (by kernel_rfl) rfl #[.pointer (some ⟨g, 0, none⟩), .int .i64 (wrap64 (d : Int))] (by rfl) rfl rfl (by simp only [List.map_toArray, List.map_cons, List.map_nil]; rfl) ?_
                with_reducible refine (show Calls Try.prog 25 #[.pointer (some ⟨g, 0, none⟩), .int .i64 (wrap64 (d : Int))] _ (interleavemade_loose_expr.Post d w0 _ g gt L) from by (try rw [hwd2]); exact IH.out w0 _ g gt L a_ ln lf (by omega) hs_.tape ha_ HL.out.1 HL.out.2 hs_.lo hne hs_.B).mono ?_
                rintro e w8 ⟨op1, n1, nm1, v1, l1, b1, rfl, hV_, hSm1, hI_, ha1, hk_, hB_⟩
                obtain ⟨A1, c1, rfl⟩ := Kd.V_slice hV_
                have hsz := blk_lt hs_.res
                have HV1 : Aside0 (Kd.V k36 36 w8 w0.heap.size (fun k => w.heap.size < k) (.slice A1 l1.length c1) l1) := ⟨Kd.V_mono hV_ (fun k hk => by omega)⟩
                have HSM := Aside0.mk hSm1
                clear hV_ hSm1
                refine ⟨_, rfl, ?_⟩
                refine hK.out _ _ ⟨keep_cell hk_ t0 hne, ⟨b1, ha1, hs_.next hI_ hk_ hB_⟩⟩ (fun hHeld => ?_)
                clear hK K
                refine norm_ (a' := ?_) ?_ ?_
                rotate_left
                · show Act.put _ (some 78) _ = _
                  simp only [Act.put, List.setIfInBounds_toArray, List.set_cons_zero, List.set_cons_succ, i64_w, i32_w]
                  rfl
                refine two_ (i := 0) (j := 12) (Ni := some 67) (Nj := some 79) #[true, true, true, true, true, true, false, false, true, true, true, true, false, false, false] #[false, true, true, true, true, true, false, false, true, true, true, true, true, false, false] rfl rfl rfl rfl (by kernel_rfl) (by decide) (by decide) (fun K hK => ?_) (fun K hK => ?_)
                · skip
                  obtain ⟨t0, t1⟩ := hHeld
                  obtain ⟨a_, ha_, hs_⟩ := t1.out
                  refine Kd.R_lit_step Kd.string _ 9 ?hg (N := 67) ?hd (xs := ([⟨#[113]⟩, ⟨#[113]⟩, ⟨#[113]⟩, ⟨#[120]⟩, ⟨#[109]⟩] : List ByteArray)) (inner := [.string ⟨#[113]⟩, .string ⟨#[113]⟩, .string ⟨#[113]⟩, .string ⟨#[120]⟩, .string ⟨#[109]⟩]) (ok := fun _ => True) (okp := fun _ => True) ?hr ?hp (fun _ hk => hk) trivial (Below.refl _ _) (Nat.le_refl _) (by simp) ?_; (case hd => rfl); (case hg => rfl); (case hr => first | (go_simp; done) | (go_simp; rfl)); (case hp => exact (Reps.one (show Kd.M Kd.string _ _ _ (⟨#[113]⟩ : ByteArray) [.string (⟨#[113]⟩ : ByteArray)] from rfl) (Reps.one (show Kd.M Kd.string _ _ _ (⟨#[113]⟩ : ByteArray) [.string (⟨#[113]⟩ : ByteArray)] from rfl) (Reps.one (show Kd.M Kd.string _ _ _ (⟨#[113]⟩ : ByteArray) [.string (⟨#[113]⟩ : ByteArray)] from rfl) (Reps.one (show Kd.M Kd.string _ _ _ (⟨#[120]⟩ : ByteArray) [.string (⟨#[120]⟩ : ByteArray)] from rfl) (Reps.one (show Kd.M Kd.string _ _ _ (⟨#[109]⟩ : ByteArray) [.string (⟨#[109]⟩ : ByteArray)] from rfl) (Reps.none _ _)))))))
                  intro v67 wa ho67 hb67 hg67 hnew67
                  obtain ⟨l67, hl67⟩ : ∃ l67 : List ByteArray, l67 = [⟨#[113]⟩, ⟨#[113]⟩, ⟨#[113]⟩, ⟨#[120]⟩, ⟨#[109]⟩] := ⟨_, rfl⟩
                  rw [← hl67] at ho67
                  have hlen67 : l67.length = 5 := by rw [hl67]; rfl
                  clear hl67
                  obtain ⟨ad67, c67, e67⟩ := Kd.R_slice1 ho67 (by omega)
                  rw [hlen67] at e67
                  subst e67
                  obtain ⟨g67, rfl⟩ := Kd.R_head ho67
                  have hsz := blk_lt hs_.res
                  have HV67 : Aside0 (Kd.V Kd.string 9 wa w0.heap.size (fun k => w.heap.size < k) (.slice (some ⟨g67, 0, none⟩) 5 c67) l67) := ⟨Kd.R_V (Kd.R_mono (Kd.R_bound ho67) (fun k hk => by have := hk.2.1; omega))⟩
                  replace HV1 := Aside0.mk (Kd.V_below HV1.out hb67)
                  refine hK.out _ _ ⟨(hb67.cell (World.block_lt_of_cell? _ _ t0)).trans t0, ⟨a_, ha_, hs_.below hb67⟩⟩ (fun hHeld => ?_)
                  clear hK K
                  refine norm_ (a' := ?_) ?_ ?_
                  rotate_left
                  · show Act.put _ (some 67) _ = _
                    simp only [Act.put, List.setIfInBounds_toArray, List.set_cons_zero, List.set_cons_succ, i64_w, i32_w]
                    rfl
                  refine pure_ (i := 6) (N := some 73) (v := ?_) (a' := ?_) #[true, true, true, true, true, true, true, false, true, true, true, true, false, false, false] rfl rfl (by kernel_rfl) (fun _ _ _ h => h) (Or.inl ⟨by rfl, ?_⟩) ?_ ?_
                  rotate_left
                  · intro w'
                    go_simp
                    with_reducible rfl
                  rotate_left
                  · simp only [Act.put, List.setIfInBounds_toArray, List.set_cons_zero, List.set_cons_succ, i64_w, i32_w]
                    rfl
                  refine two_ (i := 7) (j := 12) (Ni := some 74) (Nj := some 79) #[true, true, true, true, true, true, true, true, true, true, true, true, false, false, false] #[true, true, true, true, true, true, true, false, true, true, true, true, true, false, false] rfl rfl rfl rfl (by kernel_rfl) (by decide) (by decide) (fun K hK => ?_) (fun K hK => ?_)
                  · skip
                    obtain ⟨t0, t1⟩ := hHeld
                    obtain ⟨_, e67, p67⟩ := Kd.at_string (Kd.V_reads' HV67.out).2.2 r5 hy0 (by rw [hlen67]; omega)
                    injection e67 with e67
                    subst e67
                    obtain ⟨sn, hsn⟩ : ∃ sn, sn = rdOf ByteArray.empty l67 r5 := ⟨_, rfl⟩
                    rw [← hsn] at p67
                    clear hsn
                    have csn : World.cell? wa ⟨g67, r5.toNat, none⟩ = some (.string sn) := by have h := p67; simpa [Addr.add_lit] using h
                    refine value_ (w1 := ?_) (v := ?_) (by rfl) rfl ?_ ?_
                    rotate_left 2
                    · go_simp
                      constructor
                      · rfl
                      · rfl
                    refine hK.out _ _ ⟨t0, t1⟩ (fun hHeld => ?_)
                    clear hK K
                    refine norm_ (a' := ?_) ?_ ?_
                    rotate_left
                    · show Act.put _ (some 74) _ = _
                      simp only [Act.put, List.setIfInBounds_toArray, List.set_cons_zero, List.set_cons_succ, i64_w, i32_w]
                      rfl
                    refine one_ (i := 12) (N := some 79) #[true, true, true, true, true, true, true, true, true, true, true, true, true, false, false] rfl rfl (by kernel_rfl) (by decide) (fun K hK => ?_)
                    obtain ⟨t0, t1⟩ := hHeld
                    obtain ⟨a_, ha_, hs_⟩ := t1.out
                    have hsz := blk_lt hs_.res
                    have HVo : Aside0 (Kd.V k36 36 (wa.alloc (.cells #[.int .i64 op1, .int .i64 n1, .string nm1, .slice A1 l1.length c1] 36)) w0.heap.size (fun k => w.heap.size < k) (.slice (some ⟨wa.heap.size, 0, none⟩) 1 1) [(⟨op1, n1, nm1, l1⟩ : S36)]) := ⟨Kd.V_mono (interleavemade_loose_expr.oneV wa w0.heap.size _ (⟨op1, n1, nm1, l1⟩ : S36) HV1.out) (fun k hk => by rcases hk with hk | hk <;> omega)⟩
                    refine value_ (w1 := ?_) (v := ?_) (by rfl) rfl ?_ ?_
                    rotate_left 2
                    · go_simp
                      constructor
                      · rfl
                      · rfl
                    replace HV67 := Aside0.mk (Kd.V_alloc HV67.out (.cells #[.int .i64 op1, .int .i64 n1, .string nm1, .slice A1 l1.length c1] 36))
                    refine hK.out _ _ ⟨((below_alloc (Below.refl _ _) _).cell (World.block_lt_of_cell? _ _ t0)).trans t0, ⟨a_, ha_, hs_.alloc _⟩⟩ (fun hHeld => ?_)
                    clear hK K
                    refine norm_ (a' := ?_) ?_ ?_
                    rotate_left
                    · show Act.put _ (some 79) _ = _
                      simp only [Act.put, List.setIfInBounds_toArray, List.set_cons_zero, List.set_cons_succ, i64_w, i32_w]
                      rfl
                    exact norm_ (by first | (simp only [putAll, Act.put, List.setIfInBounds_toArray, List.set_cons_zero, List.set_cons_succ]; done) | (simp only [putAll, Act.put, List.setIfInBounds_toArray, List.set_cons_zero, List.set_cons_succ]; rfl)) (hCont (.slice (some ⟨g67, 0, none⟩) 5 c67, .int .i64 r5, .pointer (some ⟨g67, r5.toNat, none⟩), .agg #[.int .i64 op1, .int .i64 n1, .string nm1, .slice A1 l1.length c1], sn, wa.heap.size) _ ⟨hHeld, [(⟨op1, n1, nm1, l1⟩ : S36)], HVo.out, ⟨by simp, fun y hy => by rw [List.mem_singleton.1 hy]; exact HSM.out⟩⟩)
                  · skip
                    obtain ⟨t0, t1⟩ := hHeld
                    obtain ⟨a_, ha_, hs_⟩ := t1.out
                    have hsz := blk_lt hs_.res
                    have HVo : Aside0 (Kd.V k36 36 (wa.alloc (.cells #[.int .i64 op1, .int .i64 n1, .string nm1, .slice A1 l1.length c1] 36)) w0.heap.size (fun k => w.heap.size < k) (.slice (some ⟨wa.heap.size, 0, none⟩) 1 1) [(⟨op1, n1, nm1, l1⟩ : S36)]) := ⟨Kd.V_mono (interleavemade_loose_expr.oneV wa w0.heap.size _ (⟨op1, n1, nm1, l1⟩ : S36) HV1.out) (fun k hk => by rcases hk with hk | hk <;> omega)⟩
                    refine value_ (w1 := ?_) (v := ?_) (by rfl) rfl ?_ ?_
                    rotate_left 2
                    · go_simp
                      constructor
                      · rfl
                      · rfl
                    replace HV67 := Aside0.mk (Kd.V_alloc HV67.out (.cells #[.int .i64 op1, .int .i64 n1, .string nm1, .slice A1 l1.length c1] 36))
                    refine hK.out _ _ ⟨((below_alloc (Below.refl _ _) _).cell (World.block_lt_of_cell? _ _ t0)).trans t0, ⟨a_, ha_, hs_.alloc _⟩⟩ (fun hHeld => ?_)
                    clear hK K
                    refine norm_ (a' := ?_) ?_ ?_
                    rotate_left
                    · show Act.put _ (some 79) _ = _
                      simp only [Act.put, List.setIfInBounds_toArray, List.set_cons_zero, List.set_cons_succ, i64_w, i32_w]
                      rfl
                    refine one_ (i := 7) (N := some 74) #[true, true, true, true, true, true, true, true, true, true, true, true, true, false, false] rfl rfl (by kernel_rfl) (by decide) (fun K hK => ?_)
                    obtain ⟨t0, t1⟩ := hHeld
                    obtain ⟨_, e67, p67⟩ := Kd.at_string (Kd.V_reads' HV67.out).2.2 r5 hy0 (by rw [hlen67]; omega)
                    injection e67 with e67
                    subst e67
                    obtain ⟨sn, hsn⟩ : ∃ sn, sn = rdOf ByteArray.empty l67 r5 := ⟨_, rfl⟩
                    rw [← hsn] at p67
                    clear hsn
                    have csn : World.cell? (wa.alloc (.cells #[.int .i64 op1, .int .i64 n1, .string nm1, .slice A1 l1.length c1] 36)) ⟨g67, r5.toNat, none⟩ = some (.string sn) := by have h := p67; simpa [Addr.add_lit] using h
                    refine value_ (w1 := ?_) (v := ?_) (by rfl) rfl ?_ ?_
                    rotate_left 2
                    · go_simp
                      constructor
                      · rfl
                      · rfl
                    refine hK.out _ _ ⟨t0, t1⟩ (fun hHeld => ?_)
                    clear hK K
                    refine norm_ (a' := ?_) ?_ ?_
                    rotate_left
                    · show Act.put _ (some 74) _ = _
                      simp only [Act.put, List.setIfInBounds_toArray, List.set_cons_zero, List.set_cons_succ, i64_w, i32_w]
                      rfl
                    exact norm_ (by first | (simp only [putAll, Act.put, List.setIfInBounds_toArray, List.set_cons_zero, List.set_cons_succ]; done) | (simp only [putAll, Act.put, List.setIfInBounds_toArray, List.set_cons_zero, List.set_cons_succ]; rfl)) (hCont (.slice (some ⟨g67, 0, none⟩) 5 c67, .int .i64 r5, .pointer (some ⟨g67, r5.toNat, none⟩), .agg #[.int .i64 op1, .int .i64 n1, .string nm1, .slice A1 l1.length c1], sn, wa.heap.size) _ ⟨hHeld, [(⟨op1, n1, nm1, l1⟩ : S36)], HVo.out, ⟨by simp, fun y hy => by rw [List.mem_singleton.1 hy]; exact HSM.out⟩⟩)
                · skip
                  obtain ⟨t0, t1⟩ := hHeld
                  obtain ⟨a_, ha_, hs_⟩ := t1.out
                  have hsz := blk_lt hs_.res
                  have HVo : Aside0 (Kd.V k36 36 (w8.alloc (.cells #[.int .i64 op1, .int .i64 n1, .string nm1, .slice A1 l1.length c1] 36)) w0.heap.size (fun k => w.heap.size < k) (.slice (some ⟨w8.heap.size, 0, none⟩) 1 1) [(⟨op1, n1, nm1, l1⟩ : S36)]) := ⟨Kd.V_mono (interleavemade_loose_expr.oneV w8 w0.heap.size _ (⟨op1, n1, nm1, l1⟩ : S36) HV1.out) (fun k hk => by rcases hk with hk | hk <;> omega)⟩
                  refine value_ (w1 := ?_) (v := ?_) (by rfl) rfl ?_ ?_
                  rotate_left 2
                  · go_simp
                    constructor
                    · rfl
                    · rfl
                  refine hK.out _ _ ⟨((below_alloc (Below.refl _ _) _).cell (World.block_lt_of_cell? _ _ t0)).trans t0, ⟨a_, ha_, hs_.alloc _⟩⟩ (fun hHeld => ?_)
                  clear hK K
                  refine norm_ (a' := ?_) ?_ ?_
                  rotate_left
                  · show Act.put _ (some 79) _ = _
                    simp only [Act.put, List.setIfInBounds_toArray, List.set_cons_zero, List.set_cons_succ, i64_w, i32_w]
                    rfl
                  refine one_ (i := 0) (N := some 67) #[true, true, true, true, true, true, false, false, true, true, true, true, true, false, false] rfl rfl (by kernel_rfl) (by decide) (fun K hK => ?_)
                  obtain ⟨t0, t1⟩ := hHeld
                  obtain ⟨a_, ha_, hs_⟩ := t1.out
                  refine Kd.R_lit_step Kd.string _ 9 ?hg (N := 67) ?hd (xs := ([⟨#[113]⟩, ⟨#[113]⟩, ⟨#[113]⟩, ⟨#[120]⟩, ⟨#[109]⟩] : List ByteArray)) (inner := [.string ⟨#[113]⟩, .string ⟨#[113]⟩, .string ⟨#[113]⟩, .string ⟨#[120]⟩, .string ⟨#[109]⟩]) (ok := fun _ => True) (okp := fun _ => True) ?hr ?hp (fun _ hk => hk) trivial (Below.refl _ _) (Nat.le_refl _) (by simp) ?_; (case hd => rfl); (case hg => rfl); (case hr => first | (go_simp; done) | (go_simp; rfl)); (case hp => exact (Reps.one (show Kd.M Kd.string _ _ _ (⟨#[113]⟩ : ByteArray) [.string (⟨#[113]⟩ : ByteArray)] from rfl) (Reps.one (show Kd.M Kd.string _ _ _ (⟨#[113]⟩ : ByteArray) [.string (⟨#[113]⟩ : ByteArray)] from rfl) (Reps.one (show Kd.M Kd.string _ _ _ (⟨#[113]⟩ : ByteArray) [.string (⟨#[113]⟩ : ByteArray)] from rfl) (Reps.one (show Kd.M Kd.string _ _ _ (⟨#[120]⟩ : ByteArray) [.string (⟨#[120]⟩ : ByteArray)] from rfl) (Reps.one (show Kd.M Kd.string _ _ _ (⟨#[109]⟩ : ByteArray) [.string (⟨#[109]⟩ : ByteArray)] from rfl) (Reps.none _ _)))))))
                  intro v67 wa ho67 hb67 hg67 hnew67
                  obtain ⟨l67, hl67⟩ : ∃ l67 : List ByteArray, l67 = [⟨#[113]⟩, ⟨#[113]⟩, ⟨#[113]⟩, ⟨#[120]⟩, ⟨#[109]⟩] := ⟨_, rfl⟩
                  rw [← hl67] at ho67
                  have hlen67 : l67.length = 5 := by rw [hl67]; rfl
                  clear hl67
                  obtain ⟨ad67, c67, e67⟩ := Kd.R_slice1 ho67 (by omega)
                  rw [hlen67] at e67
                  subst e67
                  obtain ⟨g67, rfl⟩ := Kd.R_head ho67
                  have hsz := blk_lt hs_.res
                  have HV67 : Aside0 (Kd.V Kd.string 9 wa w0.heap.size (fun k => w.heap.size < k) (.slice (some ⟨g67, 0, none⟩) 5 c67) l67) := ⟨Kd.R_V (Kd.R_mono (Kd.R_bound ho67) (fun k hk => by have := hk.2.1; omega))⟩
                  replace HVo := Aside0.mk (Kd.V_below HVo.out hb67)
                  refine hK.out _ _ ⟨(hb67.cell (World.block_lt_of_cell? _ _ t0)).trans t0, ⟨a_, ha_, hs_.below hb67⟩⟩ (fun hHeld => ?_)
                  clear hK K
                  refine norm_ (a' := ?_) ?_ ?_
                  rotate_left
                  · show Act.put _ (some 67) _ = _
                    simp only [Act.put, List.setIfInBounds_toArray, List.set_cons_zero, List.set_cons_succ, i64_w, i32_w]
                    rfl
                  refine pure_ (i := 6) (N := some 73) (v := ?_) (a' := ?_) #[true, true, true, true, true, true, true, false, true, true, true, true, true, false, false] rfl rfl (by kernel_rfl) (fun _ _ _ h => h) (Or.inl ⟨by rfl, ?_⟩) ?_ ?_
                  rotate_left
                  · intro w'
                    go_simp
                    with_reducible rfl
                  rotate_left
                  · simp only [Act.put, List.setIfInBounds_toArray, List.set_cons_zero, List.set_cons_succ, i64_w, i32_w]
                    rfl
                  refine one_ (i := 7) (N := some 74) #[true, true, true, true, true, true, true, true, true, true, true, true, true, false, false] rfl rfl (by kernel_rfl) (by decide) (fun K hK => ?_)
                  obtain ⟨t0, t1⟩ := hHeld
                  obtain ⟨_, e67, p67⟩ := Kd.at_string (Kd.V_reads' HV67.out).2.2 r5 hy0 (by rw [hlen67]; omega)
                  injection e67 with e67
                  subst e67
                  obtain ⟨sn, hsn⟩ : ∃ sn, sn = rdOf ByteArray.empty l67 r5 := ⟨_, rfl⟩
                  rw [← hsn] at p67
                  clear hsn
                  have csn : World.cell? wa ⟨g67, r5.toNat, none⟩ = some (.string sn) := by have h := p67; simpa [Addr.add_lit] using h
                  refine value_ (w1 := ?_) (v := ?_) (by rfl) rfl ?_ ?_
                  rotate_left 2
                  · go_simp
                    constructor
                    · rfl
                    · rfl
                  refine hK.out _ _ ⟨t0, t1⟩ (fun hHeld => ?_)
                  clear hK K
                  refine norm_ (a' := ?_) ?_ ?_
                  rotate_left
                  · show Act.put _ (some 74) _ = _
                    simp only [Act.put, List.setIfInBounds_toArray, List.set_cons_zero, List.set_cons_succ, i64_w, i32_w]
                    rfl
                  exact norm_ (by first | (simp only [putAll, Act.put, List.setIfInBounds_toArray, List.set_cons_zero, List.set_cons_succ]; done) | (simp only [putAll, Act.put, List.setIfInBounds_toArray, List.set_cons_zero, List.set_cons_succ]; rfl)) (hCont (.slice (some ⟨g67, 0, none⟩) 5 c67, .int .i64 r5, .pointer (some ⟨g67, r5.toNat, none⟩), .agg #[.int .i64 op1, .int .i64 n1, .string nm1, .slice A1 l1.length c1], sn, w8.heap.size) _ ⟨hHeld, [(⟨op1, n1, nm1, l1⟩ : S36)], HVo.out, ⟨by simp, fun y hy => by rw [List.mem_singleton.1 hy]; exact HSM.out⟩⟩)
          rintro ⟨v67, v72, v73, v78, sn, b12⟩ wj ⟨hHeld, l_, hV_, hSm_⟩
          have HVo := Aside0.mk hV_
          have HSMo := Aside0.mk hSm_
          clear hV_ hSm_
          refine norm_ (a' := ?_) ?_ ?_
          rotate_left
          · simp only [putAll, Act.put, List.setIfInBounds_toArray, List.set_cons_zero, List.set_cons_succ]
            rfl
          refine pure_ (i := 13) (N := some 80) (v := ?_) (a' := ?_) #[true, true, true, true, true, true, true, true, true, true, true, true, true, true, false] rfl rfl (by kernel_rfl) (fun _ _ _ h => h) (Or.inl ⟨by rfl, ?_⟩) ?_ ?_
          rotate_left
          · intro w'
            go_simp
            with_reducible rfl
          rotate_left
          · simp only [Act.put, List.setIfInBounds_toArray, List.set_cons_zero, List.set_cons_succ, i64_w, i32_w]
            rfl
          refine last_ (i := 14) (N := none) #[true, true, true, true, true, true, true, true, true, true, true, true, true, true, true] rfl rfl (by kernel_rfl) (by decide) (fun K hK => ?_)
          obtain ⟨t0, t1⟩ := hHeld
          obtain ⟨a_, ha_, hs_⟩ := t1.out
          have HSj := Aside0.mk hs_
          have HAj := Aside0.mk ha_
          have rz0 : wj.cell? ⟨w.heap.size, 0, none⟩ = some (.int .i64 0) := (blk_cell HSj.out.res 0).trans rfl
          have rz1 : wj.cell? ⟨w.heap.size, 1, none⟩ = some (.int .i64 0) := (blk_cell HSj.out.res 1).trans rfl
          have rz2 : wj.cell? ⟨w.heap.size, 2, none⟩ = some (.string ⟨#[]⟩) := (blk_cell HSj.out.res 2).trans rfl
          have rz3 : wj.cell? ⟨w.heap.size, 3, none⟩ = some (.slice none 0 0) := (blk_cell HSj.out.res 3).trans rfl
          have kz0 : wj.frozen? ⟨w.heap.size, 0, none⟩ = false := blk_frozen HSj.out.res 0
          have kz1 : wj.frozen? ⟨w.heap.size, 1, none⟩ = false := blk_frozen HSj.out.res 1
          have kz2 : wj.frozen? ⟨w.heap.size, 2, none⟩ = false := blk_frozen HSj.out.res 2
          have kz3 : wj.frozen? ⟨w.heap.size, 3, none⟩ = false := blk_frozen HSj.out.res 3
          refine skip_ (w1 := ?_) (by rfl) rfl ?_ ?_
          rotate_left
          · go_simp
            rfl
          refine hK.out _ _ ?_
          clear hK K
          refine done_ (by kernel_rfl) ?_
          have HF : Aside0 (interleavemade_loose_expr.Fin (d + 1) w0 w (((((wj).setCell ⟨w.heap.size, 0, none⟩ (.int .i64 3)).setCell ⟨w.heap.size, 1, none⟩ (.int .i64 0)).setCell ⟨w.heap.size, 2, none⟩ (.string sn)).setCell ⟨w.heap.size, 3, none⟩ (.slice (some ⟨b12, 0, none⟩) 1 1)) gt L 3 0 sn (.slice (some ⟨b12, 0, none⟩) 1 1) _ _) := ⟨interleavemade_loose_expr.fin (d := (d + 1)) HSj.out hw0 3 0 sn HVo.out HSMo.out HAj.out⟩
          obtain ⟨W9, hW9⟩ : ∃ W9, W9 = ((((wj).setCell ⟨w.heap.size, 0, none⟩ (.int .i64 3)).setCell ⟨w.heap.size, 1, none⟩ (.int .i64 0)).setCell ⟨w.heap.size, 2, none⟩ (.string sn)).setCell ⟨w.heap.size, 3, none⟩ (.slice (some ⟨b12, 0, none⟩) 1 1) := ⟨_, rfl⟩
          rw [← hW9] at HF ⊢
          clear hW9
          have h90 : W9.cell? ⟨w.heap.size, 0, none⟩ = some (.int .i64 3) := (blk_cell HF.out.1 0).trans rfl
          have h91 : W9.cell? ⟨w.heap.size, 1, none⟩ = some (.int .i64 0) := (blk_cell HF.out.1 1).trans rfl
          have h92 : W9.cell? ⟨w.heap.size, 2, none⟩ = some (.string sn) := (blk_cell HF.out.1 2).trans rfl
          have h93 : W9.cell? ⟨w.heap.size, 3, none⟩ = some (.slice (some ⟨b12, 0, none⟩) 1 1) := (blk_cell HF.out.1 3).trans rfl
          go_wp2_with fail
          (try simp only [Exit.inBlock, Exit.then])
          refine bodyPost_ret (by simp [results, Try.results25, go_sem, h90, h91, h92, h93]; try rfl) rfl ?_
          exact ⟨_, _, _, _, _, _, rfl, HF.out.2⟩
        · have k9' := eq_false k9
          by_cases k11 : k < 11
          · have k11' := eq_true k11
            go_wp2_with fail
            obtain ⟨r2, a2, hxf, hx0, hx1, hx2⟩ := interleavemade_loose_expr.nextv L a1 2 (by omega) HL.out.1 HL.out.2 (by omega)
            refine (interleavemade_Tape_Next.calls gt L a1 2 r2 a2 w0 _ HS3.out.tape HS3.out.B hxf).mono ?_
            clear hxf
            rintro e W5 ⟨rfl, hI_, hB_, hk_⟩
            have HS5 := Aside0.mk (HS3.out.next hI_ hk_ hB_)
            clear hI_ hB_ hk_ c3
            have c5 : W5.cell? ⟨g, 0, none⟩ = some (.pointer (some ⟨gt, 0, none⟩)) := (blk_cell HS5.out.lo 0).trans rfl
            have hwr : wrap64 (4 + r2) = 4 + r2 := by unfold wrap64; omega
            go_wp2_with fail
            refine (IH.out w0 W5 g gt L a2 ln lf (by omega) HS5.out.tape hx2 HL.out.1 HL.out.2 HS5.out.lo hne HS5.out.B).mono ?_
            rintro e W6 ⟨op1, n1, nm1, v1, l1, b1, rfl, hV_, hSm1, hI_, ha1, hk_, hB_⟩
            obtain ⟨A1, c1, rfl⟩ := Kd.V_slice hV_
            have HS6 := Aside0.mk (HS5.out.next hI_ hk_ hB_)
            have hl5 := Aside0.mk (blk_lt HS5.out.res)
            have HV1 := Aside0.mk (interleavemade_loose_expr.oneV W6 w0.heap.size _ (⟨op1, n1, nm1, l1⟩ : S36) hV_)
            have HSM := Aside0.mk hSm1
            have HS7 := Aside0.mk (HS6.out.alloc (.cells #[.int .i64 op1, .int .i64 n1, .string nm1, .slice A1 l1.length c1] 36))
            have hl6 := Aside0.mk (blk_lt HS6.out.res)
            clear hV_ hI_ hB_ hk_ hSm1 c5
            have rz0 : (W6.alloc (.cells #[.int .i64 op1, .int .i64 n1, .string nm1, .slice A1 l1.length c1] 36)).cell? ⟨w.heap.size, 0, none⟩ = some (.int .i64 0) := (blk_cell HS7.out.res 0).trans rfl
            have rz1 : (W6.alloc (.cells #[.int .i64 op1, .int .i64 n1, .string nm1, .slice A1 l1.length c1] 36)).cell? ⟨w.heap.size, 1, none⟩ = some (.int .i64 0) := (blk_cell HS7.out.res 1).trans rfl
            have rz2 : (W6.alloc (.cells #[.int .i64 op1, .int .i64 n1, .string nm1, .slice A1 l1.length c1] 36)).cell? ⟨w.heap.size, 2, none⟩ = some (.string ⟨#[]⟩) := (blk_cell HS7.out.res 2).trans rfl
            have rz3 : (W6.alloc (.cells #[.int .i64 op1, .int .i64 n1, .string nm1, .slice A1 l1.length c1] 36)).cell? ⟨w.heap.size, 3, none⟩ = some (.slice none 0 0) := (blk_cell HS7.out.res 3).trans rfl
            have kz0 : (W6.alloc (.cells #[.int .i64 op1, .int .i64 n1, .string nm1, .slice A1 l1.length c1] 36)).frozen? ⟨w.heap.size, 0, none⟩ = false := blk_frozen HS7.out.res 0
            have kz1 : (W6.alloc (.cells #[.int .i64 op1, .int .i64 n1, .string nm1, .slice A1 l1.length c1] 36)).frozen? ⟨w.heap.size, 1, none⟩ = false := blk_frozen HS7.out.res 1
            have kz2 : (W6.alloc (.cells #[.int .i64 op1, .int .i64 n1, .string nm1, .slice A1 l1.length c1] 36)).frozen? ⟨w.heap.size, 2, none⟩ = false := blk_frozen HS7.out.res 2
            have kz3 : (W6.alloc (.cells #[.int .i64 op1, .int .i64 n1, .string nm1, .slice A1 l1.length c1] 36)).frozen? ⟨w.heap.size, 3, none⟩ = false := blk_frozen HS7.out.res 3
            go_wp2_with fail
            have HF : Aside0 (interleavemade_loose_expr.Fin (d + 1) w0 w ((((((W6.alloc (.cells #[.int .i64 op1, .int .i64 n1, .string nm1, .slice A1 l1.length c1] 36))).setCell ⟨w.heap.size, 0, none⟩ (.int .i64 (4 + r2))).setCell ⟨w.heap.size, 1, none⟩ (.int .i64 0)).setCell ⟨w.heap.size, 2, none⟩ (.string ⟨#[]⟩)).setCell ⟨w.heap.size, 3, none⟩ (.slice (some ⟨W6.heap.size, 0, none⟩) 1 1)) gt L (4 + r2) 0 ⟨#[]⟩ (.slice (some ⟨W6.heap.size, 0, none⟩) 1 1) _ _) := ⟨interleavemade_loose_expr.fin (d := (d + 1)) HS7.out hw0 (4 + r2) 0 ⟨#[]⟩ (Kd.V_mono HV1.out (fun k hk => by have := hl5.out; have := hl6.out; rcases hk with hk | hk <;> omega)) (show interleavemade_loose_expr.Sm (d + 1) [(⟨op1, n1, nm1, l1⟩ : S36)] from ⟨by simp, fun y hy => by rw [List.mem_singleton.1 hy]; exact HSM.out⟩) ha1⟩
            obtain ⟨W9, hW9⟩ : ∃ W9, W9 = (((((W6.alloc (.cells #[.int .i64 op1, .int .i64 n1, .string nm1, .slice A1 l1.length c1] 36))).setCell ⟨w.heap.size, 0, none⟩ (.int .i64 (4 + r2))).setCell ⟨w.heap.size, 1, none⟩ (.int .i64 0)).setCell ⟨w.heap.size, 2, none⟩ (.string ⟨#[]⟩)).setCell ⟨w.heap.size, 3, none⟩ (.slice (some ⟨W6.heap.size, 0, none⟩) 1 1) := ⟨_, rfl⟩
            rw [← hW9] at HF ⊢
            clear hW9
            have h90 : W9.cell? ⟨w.heap.size, 0, none⟩ = some (.int .i64 (4 + r2)) := (blk_cell HF.out.1 0).trans rfl
            have h91 : W9.cell? ⟨w.heap.size, 1, none⟩ = some (.int .i64 0) := (blk_cell HF.out.1 1).trans rfl
            have h92 : W9.cell? ⟨w.heap.size, 2, none⟩ = some (.string ⟨#[]⟩) := (blk_cell HF.out.1 2).trans rfl
            have h93 : W9.cell? ⟨w.heap.size, 3, none⟩ = some (.slice (some ⟨W6.heap.size, 0, none⟩) 1 1) := (blk_cell HF.out.1 3).trans rfl
            (try simp only [Exit.inBlock, Exit.then])
            refine bodyPost_ret (by simp [results, Try.results25, go_sem, h90, h91, h92, h93]; try rfl) rfl ?_
            exact ⟨_, _, _, _, _, _, rfl, HF.out.2⟩
          · have k11' := eq_false k11
            go_wp2_with fail
            obtain ⟨r2, a2, hxf, hx0, hx1, hx2⟩ := interleavemade_loose_expr.nextv L a1 13 (by omega) HL.out.1 HL.out.2 (by omega)
            refine (interleavemade_Tape_Next.calls gt L a1 13 r2 a2 w0 _ HS3.out.tape HS3.out.B hxf).mono ?_
            clear hxf
            rintro e W5 ⟨rfl, hI_, hB_, hk_⟩
            have HS5 := Aside0.mk (HS3.out.next hI_ hk_ hB_)
            clear hI_ hB_ hk_ c3
            have hwr : wrap64 (6 + r2) = 6 + r2 := by unfold wrap64; omega
            go_wp2_with fail
            refine (IH.out w0 W5 g gt L a2 ln lf (by omega) HS5.out.tape hx2 HL.out.1 HL.out.2 HS5.out.lo hne HS5.out.B).mono ?_
            rintro e W6 ⟨op1, n1, nm1, v1, l1, b1, rfl, hV_, hSm1, hI_, ha1, hk_, hB_⟩
            obtain ⟨A1, c1, rfl⟩ := Kd.V_slice hV_
            have HS6 := Aside0.mk (HS5.out.next hI_ hk_ hB_)
            have hl5 := Aside0.mk (blk_lt HS5.out.res)
            have HV1 := Aside0.mk hV_
            have HSM := Aside0.mk hSm1
            clear hV_ hI_ hB_ hk_ hSm1
            go_wp2_with fail
            obtain ⟨b9, hb9⟩ : ∃ b9, b9 = W6.heap.size := ⟨_, rfl⟩
            obtain ⟨W7, hW7⟩ : ∃ W7, W7 = W6.alloc (.cells #[.int .i64 op1, .int .i64 n1, .string nm1, .slice A1 l1.length c1] 36) := ⟨_, rfl⟩
            rw [← hb9, ← hW7]
            have HS7 : Aside0 (interleavemade_loose_expr.Se w0 w W7 g gt L b1 ln lf) := ⟨by rw [hW7]; exact HS6.out.alloc _⟩
            have HV7 : Aside0 (Kd.V k36 36 W7 w0.heap.size (fun k => W5.heap.size ≤ k) (.slice A1 l1.length c1) l1) := ⟨by rw [hW7]; exact Kd.V_alloc HV1.out _⟩
            have HB9 : Aside0 (W7.heap[b9]? = some (.cells #[.int .i64 op1, .int .i64 n1, .string nm1, .slice A1 l1.length c1] 36 (0, 0))) := ⟨by rw [hW7, hb9]; exact blk_new _ _⟩
            have hb9g : b9 ≠ gt := by have := blk_lt HS6.out.res; have := HS6.out.lt; omega
            clear hW7 hb9 HS6 HV1
            have q0 : W7.cell? ⟨b9, 0, none⟩ = some (.int .i64 op1) := (blk_cell HB9.out 0).trans rfl
            have q1 : W7.cell? ⟨b9, 1, none⟩ = some (.int .i64 n1) := (blk_cell HB9.out 1).trans rfl
            have q2 : W7.cell? ⟨b9, 2, none⟩ = some (.string nm1) := (blk_cell HB9.out 2).trans rfl
            have q3 : W7.cell? ⟨b9, 3, none⟩ = some (.slice A1 l1.length c1) := (blk_cell HB9.out 3).trans rfl
            refine start_ (n := 8) (S := fun w' => w'.cell? ⟨b9, 0, none⟩ = some (.int .i64 op1) ∧ w'.cell? ⟨b9, 1, none⟩ = some (.int .i64 n1) ∧ w'.cell? ⟨b9, 2, none⟩ = some (.string nm1) ∧ w'.cell? ⟨b9, 3, none⟩ = some (.slice A1 l1.length c1) ∧ Aside0 (∃ a_, 0 ≤ a_ ∧ interleavemade_loose_expr.Se w0 w w' g gt L a_ ln lf) ∧ Aside0 (Kd.V k36 36 w' w0.heap.size (fun k => W5.heap.size ≤ k) (.slice A1 l1.length c1) l1)) (ds := [7]) #[false, false, false, false, false, false, false, false] (by kernel_rfl) rfl rfl ⟨q0, q1, q2, q3, Aside0.mk ⟨b1, ha1, HS7.out.below (below_drew (Below.refl _ _))⟩, Aside0.mk (Kd.V_drew HV7.out)⟩ (fun hHeld => ?_)
            refine pure_ (i := 0) (N := some 106) (v := ?_) (a' := ?_) #[true, false, false, false, false, false, false, false] rfl rfl (by kernel_rfl) (fun _ _ _ h => h) (Or.inl ⟨by rfl, ?_⟩) ?_ ?_
            rotate_left
            · intro w'
              go_simp
              with_reducible rfl
            rotate_left
            · simp only [Act.put, List.setIfInBounds_toArray, List.set_cons_zero, List.set_cons_succ, i64_w, i32_w]
              rfl
            refine pure_ (i := 2) (N := some 108) (v := ?_) (a' := ?_) #[true, false, true, false, false, false, false, false] rfl rfl (by kernel_rfl) (fun _ _ _ h => h) (Or.inl ⟨by rfl, ?_⟩) ?_ ?_
            rotate_left
            · intro w'
              go_simp
              with_reducible rfl
            rotate_left
            · simp only [Act.put, List.setIfInBounds_toArray, List.set_cons_zero, List.set_cons_succ, i64_w, i32_w]
              rfl
            refine pure_ (i := 3) (N := some 109) (v := ?_) (a' := ?_) #[true, false, true, true, false, false, false, false] rfl rfl (by kernel_rfl) (fun _ _ _ h => h) (Or.inl ⟨by rfl, ?_⟩) ?_ ?_
            rotate_left
            · intro w'
              go_simp
              with_reducible rfl
            rotate_left
            · simp only [Act.put, List.setIfInBounds_toArray, List.set_cons_zero, List.set_cons_succ, i64_w, i32_w]
              rfl
            refine pure_ (i := 4) (N := some 110) (v := ?_) (a' := ?_) #[true, false, true, true, true, false, false, false] rfl rfl (by kernel_rfl) (fun _ _ _ h => h) (Or.inl ⟨by rfl, ?_⟩) ?_ ?_
            rotate_left
            · intro w'
              go_simp
              with_reducible rfl
            rotate_left
            · simp only [Act.put, List.setIfInBounds_toArray, List.set_cons_zero, List.set_cons_succ, i64_w, i32_w]
              rfl
            refine take_ (i := 1) (N := some 107) (v := ?_) (a' := ?_) #[true, true, true, true, true, false, false, false] rfl rfl (by kernel_rfl) (fun _ _ _ h => h) (Or.inl ⟨by rfl, ?_⟩) hHeld ?_ ?_
            rotate_left
            · rintro w' ⟨s0, s1, s2, s3, s4, s5⟩
              go_simp
              with_reducible rfl
            rotate_left
            · simp only [Act.put, List.setIfInBounds_toArray, List.set_cons_zero, List.set_cons_succ, i64_w, i32_w]
              rfl
            refine one_ (i := 5) (N := some 111) #[true, true, true, true, true, true, false, false] rfl rfl (by kernel_rfl) (by decide) (fun K hK => ?_)
            obtain ⟨t0, t1, t2, t3, t4, t5⟩ := hHeld
            obtain ⟨a_, ha_, hs_⟩ := t4.out
            refine goes_ Try.func25 (by kernel_rfl) rfl #[.pointer (some ⟨g, 0, none⟩), .int .i64 (wrap64 (d : Int))] (by rfl) rfl rfl (by simp only [List.map_toArray, List.map_cons, List.map_nil]; rfl) ?_
            with_reducible refine (show Calls Try.prog 25 #[.pointer (some ⟨g, 0, none⟩), .int .i64 (wrap64 (d : Int))] _ (interleavemade_loose_expr.Post d w0 _ g gt L) from by rw [hwd2]; exact IH.out w0 _ g gt L a_ ln lf (by omega) hs_.tape ha_ HL.out.1 HL.out.2 hs_.lo hne hs_.B).mono ?_
            rintro e w8 ⟨op2, n2, nm2, v2, l2, b2, rfl, hV_, hSm2, hI_, ha2, hk_, hB_⟩
            obtain ⟨A2, c2, rfl⟩ := Kd.V_slice hV_
            have HV2 := Aside0.mk hV_
            have HSM2 := Aside0.mk hSm2
            have hl8 := Aside0.mk (blk_lt hs_.res)
            clear hV_ hSm2
            refine ⟨_, rfl, ?_⟩
            refine hK.out _ _ ⟨keep_cell hk_ t0 hb9g, keep_cell hk_ t1 hb9g, keep_cell hk_ t2 hb9g, keep_cell hk_ t3 hb9g, ⟨b2, ha2, hs_.next hI_ hk_ hB_⟩, ⟨Kd.V_keep t5.out hk_ (fun k hk => by have := hl5.out; have := hs_.lt; omega)⟩⟩ (fun hHeld => ?_)
            clear hK K
            refine norm_ (a' := ?_) ?_ ?_
            rotate_left
            · show Act.put _ (some 111) _ = _
              simp only [Act.put, List.setIfInBounds_toArray, List.set_cons_zero, List.set_cons_succ, i64_w, i32_w]
              rfl
            refine one_ (i := 6) (N := some 112) #[true, true, true, true, true, true, true, false] rfl rfl (by kernel_rfl) (by decide) (fun K hK => ?_)
            obtain ⟨t0, t1, t2, t3, t4, t5⟩ := hHeld
            obtain ⟨a_, ha_, hs_⟩ := t4.out
            refine goes_ Try.func31 (by kernel_rfl) rfl #[.int .i64 (6 + r2), .agg #[.int .i64 op1, .int .i64 n1, .string nm1, .slice A1 l1.length c1], .agg #[.int .i64 op2, .int .i64 n2, .string nm2, .slice A2 l2.length c2]] (by rfl) rfl rfl (by simp only [List.map_toArray, List.map_cons, List.map_nil]; rfl) ?_
            with_reducible refine (interleavemade_binary.calls (6 + r2) op1 n1 nm1 (fun k => W5.heap.size ≤ k) A1 c1 l1 op2 n2 nm2 _ A2 c2 l2 (6 + r2) 0 ⟨#[]⟩ _ _ t5.out HV2.out rfl).mono ?_
            rintro e w9 ⟨v9, rfl, hN9, hB9⟩
            obtain ⟨A9, c9, rfl⟩ := Kd.N_slice hN9
            have HS9 := Aside0.mk (hs_.below hB9)
            have HV9 := Aside0.mk (Kd.N_V (base' := w0.heap.size) hN9)
            have hl9 := Aside0.mk (blk_lt hs_.res)
            have HA9 := Aside0.mk ha_
            refine ⟨_, rfl, ?_⟩
            refine hK.out _ _ ⟨(hB9.cell (World.block_lt_of_cell? _ _ t0)).trans t0, (hB9.cell (World.block_lt_of_cell? _ _ t1)).trans t1, (hB9.cell (World.block_lt_of_cell? _ _ t2)).trans t2, (hB9.cell (World.block_lt_of_cell? _ _ t3)).trans t3, ⟨a_, ha_, HS9.out⟩, ⟨Kd.V_below t5.out hB9⟩⟩ (fun hHeld => ?_)
            clear hK K
            refine norm_ (a' := ?_) ?_ ?_
            rotate_left
            · show Act.put _ (some 112) _ = _
              simp only [Act.put, List.setIfInBounds_toArray, List.set_cons_zero, List.set_cons_succ, i64_w, i32_w]
              rfl
            refine last_ (i := 7) (N := none) #[true, true, true, true, true, true, true, true] rfl rfl (by kernel_rfl) (by decide) (fun K hK => ?_)
            obtain ⟨t0, t1, t2, t3, t4, t5⟩ := hHeld
            have rz0 : w9.cell? ⟨w.heap.size, 0, none⟩ = some (.int .i64 0) := (blk_cell HS9.out.res 0).trans rfl
            have rz1 : w9.cell? ⟨w.heap.size, 1, none⟩ = some (.int .i64 0) := (blk_cell HS9.out.res 1).trans rfl
            have rz2 : w9.cell? ⟨w.heap.size, 2, none⟩ = some (.string ⟨#[]⟩) := (blk_cell HS9.out.res 2).trans rfl
            have rz3 : w9.cell? ⟨w.heap.size, 3, none⟩ = some (.slice none 0 0) := (blk_cell HS9.out.res 3).trans rfl
            have kz0 : w9.frozen? ⟨w.heap.size, 0, none⟩ = false := blk_frozen HS9.out.res 0
            have kz1 : w9.frozen? ⟨w.heap.size, 1, none⟩ = false := blk_frozen HS9.out.res 1
            have kz2 : w9.frozen? ⟨w.heap.size, 2, none⟩ = false := blk_frozen HS9.out.res 2
            have kz3 : w9.frozen? ⟨w.heap.size, 3, none⟩ = false := blk_frozen HS9.out.res 3
            refine skip_ (w1 := ?_) (by rfl) rfl ?_ ?_
            rotate_left
            · go_simp
              rfl
            refine hK.out _ _ ?_
            clear hK K
            refine done_ (by kernel_rfl) ?_
            have HF : Aside0 (interleavemade_loose_expr.Fin (d + 1) w0 w (((((w9).setCell ⟨w.heap.size, 0, none⟩ (.int .i64 (6 + r2))).setCell ⟨w.heap.size, 1, none⟩ (.int .i64 0)).setCell ⟨w.heap.size, 2, none⟩ (.string ⟨#[]⟩)).setCell ⟨w.heap.size, 3, none⟩ (.slice A9 2 c9)) gt L (6 + r2) 0 ⟨#[]⟩ (.slice A9 2 c9) _ _) := ⟨interleavemade_loose_expr.fin (d := (d + 1)) HS9.out hw0 (6 + r2) 0 ⟨#[]⟩ (Kd.V_mono HV9.out (fun k hk => by have := hl5.out; have := hl8.out; have := hl9.out; rcases hk with (hk | hk) | hk <;> omega)) (show interleavemade_loose_expr.Sm (d + 1) [(⟨op1, n1, nm1, l1⟩ : S36), (⟨op2, n2, nm2, l2⟩ : S36)] from ⟨by simp, fun y hy => by (rcases List.mem_cons.1 hy with rfl | hy); exact HSM.out; rw [List.mem_singleton.1 hy]; exact HSM2.out⟩) HA9.out⟩
            obtain ⟨W9, hW9⟩ : ∃ W9, W9 = ((((w9).setCell ⟨w.heap.size, 0, none⟩ (.int .i64 (6 + r2))).setCell ⟨w.heap.size, 1, none⟩ (.int .i64 0)).setCell ⟨w.heap.size, 2, none⟩ (.string ⟨#[]⟩)).setCell ⟨w.heap.size, 3, none⟩ (.slice A9 2 c9) := ⟨_, rfl⟩
            rw [← hW9] at HF ⊢
            clear hW9
            have h90 : W9.cell? ⟨w.heap.size, 0, none⟩ = some (.int .i64 (6 + r2)) := (blk_cell HF.out.1 0).trans rfl
            have h91 : W9.cell? ⟨w.heap.size, 1, none⟩ = some (.int .i64 0) := (blk_cell HF.out.1 1).trans rfl
            have h92 : W9.cell? ⟨w.heap.size, 2, none⟩ = some (.string ⟨#[]⟩) := (blk_cell HF.out.1 2).trans rfl
            have h93 : W9.cell? ⟨w.heap.size, 3, none⟩ = some (.slice A9 2 c9) := (blk_cell HF.out.1 3).trans rfl
            go_wp2_with fail
            (try simp only [Exit.inBlock, Exit.then])
            refine bodyPost_ret (by simp [results, Try.results25, go_sem, h90, h91, h92, h93]; try rfl) rfl ?_
            exact ⟨_, _, _, _, _, _, rfl, HF.out.2⟩

end Go.Proofs.Ytgoefoilghjfhaa.MEvalExprTells
