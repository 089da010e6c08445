-- Written by a program of this session (wip/myprint in its repo: the kit's print with additions of its own).
import Derived.Test.YtolfnlamknmeaaaMDiffGreatestx0
import Derived.Test.YtolfnlamknmeaaaMDiffGreatestx4
namespace Go.Proofs.Ytolfnlamknmeaaa.MDiffGreatest
open Go.RowKit Go.Proofs.YtolfnlamknmeaaaW.PrintWords Go.Proofs.YtolfnlamknmeaaaW.PrintLast Go.Proofs.YtolfnlamknmeaaaW.PrintMore
attribute [local go_sem] max2_int min2_int max_two min_two max_three min_three max_four min_four   -- for this text's walks alone
set_option linter.unusedVariables false
set_option linter.unusedSimpArgs false

/-! ### interleavelaw32_system: function 16 -/
theorem interleavelaw32_system.kept {P : Program} {W : World} (base : Nat) (t ty e : TypeId) (i : TypeInfo) (z : Value) (size bytes : Nat) (ht : P.underlying t = some (.slice e)) (hi : P.info? e = some i) (hz : i.zero = some z)
    (hsize : i.size = size) (hby : i.bytes = bytes) (hzs : z.cells.size = size) (hsz : 0 < size) (hb0 : 0 < bytes)
    (v : Value) (n : Nat) (xs : List Value) (hown : W.ownsRow base e size v n xs)
    (a : Addr) (c : Nat) (news : List Value) (hl : news.length = size) (hnews : ∀ j u, news[j]? = some u → W.cell? (a.add j) = some u) (h1 : ∀ u ∈ news, u.oneCell' = true)
    (hbytes : (n + 1) * bytes ≤ 140737488355328) (hbase : base ≤ W.heap.size) :
    ∃ v' w', (Builtin.append_ #[t, t] ty #[v, .slice (some a) 1 c]).run P W = .ok v' w' ∧ w'.ownsRow base e size v' (n + 1) (xs ++ news) ∧ W.grownBy w' v.ownBlock ∧
      (v'.ownBlock = v.ownBlock ∨ (v'.ownBlock = some W.heap.size ∧ ∀ k, k < W.heap.size → w'.heap[k]? = W.heap[k]?)) := by
  have hlen : n + 1 ≤ 140737488355328 := Nat.le_trans (Nat.le_mul_of_pos_right _ hb0) hbytes
  obtain ⟨v', w', hr, h2, h3, _, hat⟩ := run_append_own_at (P := P) W base t ty e i z size bytes ht hi hz hsize hby hzs hsz v n xs hown a 1 c news (by omega) hnews h1 (by simp only [maxLen]; omega) hbytes hbase
  refine ⟨v', w', hr, h2, h3, ?_⟩
  rcases hat with hat | hat
  · exact .inl hat
  · rcases hown.2 with ⟨rfl, _⟩ | ⟨g, cap, cur, rfl, hbg, hg, hnc, hcm, hcs, htake⟩
    · exact .inr ⟨hat, fun k hk => h3.block k hk (by simp [Value.ownBlock])⟩
    · subst hsize
      subst hby
      by_cases hroom : n + 1 ≤ cap
      · have hfit : n * i.size + news.length ≤ cur.size := by
          have := Nat.mul_le_mul_right i.size hroom
          rw [Nat.add_mul, Nat.one_mul] at this
          omega
        have hr2 := run_append_room (P := P) W t ty e i ht hi g n cap cur hg a 1 c news (by omega) hnews h1 hroom hfit
        rw [hr] at hr2
        injection hr2 with hv _
        subst hv
        exact .inl rfl
      · have holds : ∀ j u, xs[j]? = some u → W.cell? ((⟨g, 0, none⟩ : Addr).add j) = some u := hown.cells (g := g) rfl
        have hr2 := run_append_grow (P := P) W t ty e i z ht hi hz ⟨g, 0, none⟩ n cap xs hown.1 holds a 1 c news (by omega) hnews (by omega) (by omega) (growslice_fits (by omega) hbytes)
        rw [hr] at hr2
        injection hr2 with _ hw
        refine .inr ⟨hat, fun k hk => ?_⟩
        rw [hw]
        exact Go.heap_alloc_old W.drew _ hk
section
variable {P : Program} {ops : Array Oper} {rest : List Oper} {o : Oper} {a : Act} {Q : Exit → Act → World → Prop} {α : Type}
theorem interleavelaw32_system.app (d : Kd α) {w0 W : World} (base : Nat) (hgd : o.guard = none) (s x : Operand) (t e : TypeId) (z : Value) (bytes : Nat)
    (ho : o.op = .call { callee := .builtin .append, args := #[s, x], argTypes := #[t, t] })
    (ht : P.underlying t = some (.slice e)) (hinfo : (P.info? e).map (fun i => (i.zero, i.size, i.bytes)) = some (some z, d.sz, bytes)) (hz : z.cells.size = d.sz) (hs0 : 0 < d.sz) (hb0 : 0 < bytes)
    (v : Value) (xs : List α) (p : α) (cs : List Value) (ok okp : Nat → Prop) (hs : a.eval s = v) (hx : a.eval x = .slice (some ⟨W.heap.size, 0, none⟩) 1 1) (hp : d.M W base okp p cs) (hokp : ∀ k, okp k → ok k ∧ some k ≠ v.ownBlock) (hfresh : ∀ k, W.heap.size ≤ k → ok k)
    (HO : d.R e W base ok v xs) (HB : Below base w0 W) (hbase : base ≤ W.heap.size) (hl : (xs.length + 1) * bytes ≤ 140737488355328)
    (h : ∀ v1 w1, d.R e w1 base ok v1 (xs ++ [p]) → Below base w0 w1 → W.grownBy w1 v.ownBlock → (v1.ownBlock = v.ownBlock ∨ ((∃ b, v1.ownBlock = some b ∧ W.heap.size ≤ b) ∧ ∀ k, k < W.heap.size → w1.heap[k]? = W.heap[k]?)) → wpList P ops Q rest (a.put o.dst v1) w1) :
    wpList P ops Q (o :: rest) a (W.alloc (.cells cs.toArray e)) := by
  obtain ⟨h0, inner, hown, hr⟩ := HO
  obtain ⟨i0, hi, hzz⟩ := Option.map_eq_some_iff.1 hinfo
  simp only [Prod.mk.injEq] at hzz
  obtain ⟨hz0, hz1, hz2⟩ := hzz
  have hcs : cs.length = d.sz := d.K_len (d.K_of_M hp)
  obtain ⟨v1, w1, hrun, hown1, hg1, hat⟩ := interleavelaw32_system.kept (P := P) (W := W.alloc (.cells cs.toArray e)) base t o.type e i0 z d.sz bytes ht hi hz0 hz1 hz2 hz hs0 hb0 v xs.length inner (hown.alloc _) ⟨W.heap.size, 0, none⟩ 1 cs hcs
    (by simpa using World.news_of_block (cs := cs.toArray) (t := e) (fr := (0, 0)) (heap_alloc_new W (.cells cs.toArray e))) (d.K_one (d.K_of_M hp)) hl (by simp; omega)
  refine wpList_plain hgd fun K hK => ?_
  unfold Oper.wp execOp
  simp only [ho, resolve, invoke, builtin, Sem.run_bind, Sem.run_pure, Result.andThen_ok, List.map_toArray, List.map_cons, List.map_nil, hs, hx, hrun]
  have hg2 : W.grownBy w1 v.ownBlock := World.grownBy.trans (World.grownBy_alloc W _ _) hg1
  have hat2 : v1.ownBlock = v.ownBlock ∨ ((∃ b, v1.ownBlock = some b ∧ W.heap.size ≤ b) ∧ ∀ k, k < W.heap.size → w1.heap[k]? = W.heap[k]?) := by
    rcases hat with hat | ⟨hat, hk⟩
    · exact .inl hat
    · exact .inr ⟨⟨_, hat, by simp⟩, fun k hlt => (hk k (by simp; omega)).trans (Go.heap_alloc_old W _ hlt)⟩
  refine hK _ _ (h v1 w1 (Kd.R_appended h0 hr hp hokp hfresh hown1 hg2 (hat2.imp id And.left)) ((HB.alloc hbase _).grown hg1 (by simp; omega) (own_base hown)) hg2 hat2)
end
structure interleavelaw32_system.Sy (w0 : World) (okL : Nat → Prop) (W : World) (g ga : Nat) (n m : Int) (va vl vc : Value) (al ext : List S36) (cl : List (List Int)) : Prop where
  f : W.heap[g]? = some (.cells #[.int .i64 n, .int .i64 m, va, vc] 53 (0, 0))
  hga : ga < W.heap.size
  ha : Kd.F k36 W (fun k => k = ga) (some ⟨ga, 0, none⟩) al.length al
  hl : Kd.R k36 36 W w0.heap.size okL vl (al ++ ext)
  hc : Kd.R (Kd.slice 3 (Kd.int .i64)) 25 W w0.heap.size (fun _ => True) vc cl
  B : Below w0.heap.size w0 W
  hg : w0.heap.size ≤ g
section
variable {okL : Nat → Prop} {w0 W W1 : World} {g ga : Nat} {n m : Int} {va vl vc : Value} {al ext : List S36} {cl : List (List Int)}
theorem interleavelaw32_system.Sy.below (h : interleavelaw32_system.Sy w0 okL W g ga n m va vl vc al ext cl) (hb : Below W.heap.size W W1) : interleavelaw32_system.Sy w0 okL W1 g ga n m va vl vc al ext cl :=
  ⟨blk_below h.f hb, Nat.lt_of_lt_of_le h.hga hb.size, Kd.F_below h.ha hb, Kd.R_below h.hl hb, Kd.R_below h.hc hb, below_step h.B hb, h.hg⟩
theorem interleavelaw32_system.Sy.fresh (h : interleavelaw32_system.Sy w0 okL W g ga n m va vl vc al ext cl) : interleavelaw32_system.Sy w0 (fun k => k < W.heap.size) W g ga n m va vl vc al ext cl :=
  ⟨h.f, h.hga, h.ha, Kd.R_mono (Kd.R_bound h.hl) (fun k hk => hk.2.2.1), h.hc, h.B, h.hg⟩
theorem interleavelaw32_system.Sy.all (h : interleavelaw32_system.Sy w0 okL W g ga n m va vl vc al ext cl) : interleavelaw32_system.Sy w0 (fun _ => True) W g ga n m va vl vc al ext cl :=
  ⟨h.f, h.hga, h.ha, Kd.R_mono h.hl (fun _ _ => trivial), h.hc, h.B, h.hg⟩
theorem interleavelaw32_system.Sy.far (h : interleavelaw32_system.Sy w0 okL W g ga n m va vl vc al ext cl) {b t j : Nat} {cells : Array Value} (hb : W.heap[b]? = some (.cells cells t (0, 0))) (hgb : g ≠ b ∧ ga ≠ b ∧ w0.heap.size ≤ b) (hok : ∀ k, okL k → k ≠ b) (ht : 25 ≠ t ∧ 3 ≠ t) (u : Value) : interleavelaw32_system.Sy w0 okL (W.setCell ⟨b, j, none⟩ u) g ga n m va vl vc al ext cl :=
  ⟨blk_far h.f hgb.1 u, by have := h.hga; simpa using this, Kd.F_far (p := ⟨b, j, none⟩) h.ha (fun k hk => by subst hk; exact hgb.2.1) u, Kd.R_far (p := ⟨b, j, none⟩) h.hl hok u,
    Kd.R_set h.hc hb (fun q hq => by
      rcases List.mem_cons.1 hq with rfl | hq
      · exact ht.1
      · rcases List.mem_cons.1 hq with rfl | hq
        · exact ht.2
        · cases hq) j u, below_set h.B hgb.2.2, h.hg⟩
theorem interleavelaw32_system.Sy.app (h : interleavelaw32_system.Sy w0 (fun _ => True) W g ga n m va vl vc al ext cl) {d : S36} {v1 : Value} (hal : 0 < al.length) (hl : Kd.R k36 36 W1 w0.heap.size (fun _ => True) v1 ((al ++ ext) ++ [d])) (hg : W.grownBy W1 vl.ownBlock) (hB : Below w0.heap.size w0 W1)
    (hat : v1.ownBlock = vl.ownBlock ∨ ((∃ b, v1.ownBlock = some b ∧ W.heap.size ≤ b) ∧ ∀ k, k < W.heap.size → W1.heap[k]? = W.heap[k]?)) : interleavelaw32_system.Sy w0 (fun _ => True) W1 g ga n m va v1 vc al (ext ++ [d]) cl := by
  refine ⟨blk_grown h.f hg (Kd.R_ne h.hl h.f (by decide)), Nat.lt_of_lt_of_le h.hga hg.size, ?_, by rw [← List.append_assoc]; exact hl, Kd.R_over h.hc h.hl (fun q hq => by
      rcases List.mem_cons.1 hq with rfl | hq
      · decide
      · rcases List.mem_cons.1 hq with rfl | hq
        · decide
        · cases hq) hg, hB, h.hg⟩
  rcases hat with hat | ⟨_, hk⟩
  · by_cases hv : some ga = vl.ownBlock
    · obtain ⟨ad, c, rfl⟩ := Kd.R_slice1 hl (by simp; omega)
      obtain ⟨g1, rfl⟩ := Kd.R_head hl
      have e : g1 = ga := by
        rw [← hv] at hat
        simpa [Value.ownBlock] using hat
      subst e
      have h1 := Kd.R_F (Kd.R_flat (ok' := fun k => k = g1) (fun h => h) hl (fun k hk _ => by simpa [Value.ownBlock, eq_comm] using hk))
      have h2 := Kd.F_take (m := al.length) h1 (by simp)
      rw [show ((al ++ ext) ++ [d]).take al.length = al from by rw [List.append_assoc, List.take_left]] at h2
      exact h2
    · exact Kd.F_grown h.ha hg (fun k hk => by subst hk; exact hv)
  · exact Kd.F_step h.ha (fun k _ hlt => hk k hlt)
end
def interleavelaw32_system.okL (n : Int) (d : S36) : Prop := (0 ≤ d.f0 ∧ d.f0 < n) ∧ (0 ≤ d.f1 ∧ d.f1 < n) ∧ d.f0 ≠ d.f1 ∧ (-4 ≤ d.f2 ∧ d.f2 ≤ 6)
set_option maxHeartbeats 8000000 in
set_option maxRecDepth 100000 in
theorem interleavelaw32_system.calls (w : World) (s0 s1 s2 : Int) (A : Option Addr) (c : Nat) (L0 : List Int) (hr : Kd.C (Kd.int .u8) w A L0.length L0) (hc : L0.length ≤ c) (h0 : 0 ≤ s0 ∧ s0 ≤ 255) (h1 : 0 ≤ s1 ∧ s1 ≤ 255) (h2 : 0 ≤ s2 ∧ s2 ≤ 255) (hu : ∀ x ∈ L0, 0 ≤ x ∧ x ≤ 255) :
    Calls Try.prog 16 #[.agg #[.int .u8 s0, .int .u8 s1, .int .u8 s2, .slice A L0.length c]] w fun e w' => ∃ (n : Int) (vl : Value) (l : List S36), e = .returned (.tuple #[.int .i64 n, vl]) ∧
      Kd.R k36 36 w' w.heap.size (fun _ => True) vl l ∧ (2 ≤ n ∧ n ≤ 6) ∧ l.length ≤ 52 ∧ (∀ d ∈ l, interleavelaw32_system.okL n d) ∧ Below w.heap.size w w' := by
  have hu32 := Try.underlying32
  have hu53 := Try.underlying53
  have HU := Aside0.mk hu
  have HR := Aside0.mk hr
  have HB := Aside0.mk (Below.refl w.heap.size w)
  clear hr hu
  go_enter Try.func16, Try.ntmps16
  go_wp2_with fail
  refine (interleavescene_Problem_Formula.calls (w.alloc _) s0 s1 s2 A c L0 (Kd.C_below HR.out (below_alloc (Below.refl _ _) _)) hc h0 h1 h2 HU.out).mono ?_
  rintro e w1 ⟨n, m, va, vc, al, cl, rfl, HRa, HRc, hn, hal, hA, hcl, hC, HB1⟩
  have HRa2 := Kd.R_lower HRa (show w.heap.size ≤ _ by simp)
  have HRc2 := Kd.R_lower HRc (show w.heap.size ≤ _ by simp)
  obtain ⟨ad, ca, rfl⟩ := Kd.R_slice1 HRa2 (by omega)
  obtain ⟨ga, rfl⟩ := Kd.R_head HRa2
  have hga : ga < w1.heap.size := Kd.R_lt HRa2 ga rfl
  have hal63 : al.length ≤ ca := (Kd.R_reads' HRa2).2.1
  obtain ⟨Ac, cc, rfl⟩ := Kd.R_slice HRc2
  have HBw := below_step (below_alloc (Below.refl w.heap.size w) (.cells #[.int .u8 s0, .int .u8 s1, .int .u8 s2, .slice A L0.length c] 32)) HB1
  obtain ⟨na, hna⟩ : ∃ q : Nat, q = al.length := ⟨_, rfl⟩
  obtain ⟨nc, hnc⟩ : ∃ q : Nat, q = cl.length := ⟨_, rfl⟩
  have hSy : interleavelaw32_system.Sy w (fun _ => True) (w1.alloc (.cells #[.int .i64 n, .int .i64 m, .slice (some ⟨ga, 0, none⟩) al.length ca, .slice Ac cl.length cc] 53)) w1.heap.size ga n m (.slice (some ⟨ga, 0, none⟩) al.length ca) (.slice (some ⟨ga, 0, none⟩) al.length ca) (.slice Ac cl.length cc) al [] cl :=
    ⟨blk_new _ _, by simp; omega, Kd.F_alloc (Kd.R_F (Kd.R_flat (ok' := fun k => k = ga) (fun h => h) HRa2 (fun k hk _ => by simpa [Value.ownBlock, eq_comm] using hk))) _, by rw [List.append_nil]; exact Kd.R_alloc HRa2 _, Kd.R_alloc HRc2 _, below_alloc HBw _, HBw.size⟩
  rw [← hna, ← hnc] at hSy
  rw [← hna, ← hnc]
  have HSy := Aside0.mk hSy
  have HNA := Aside0.mk hna
  have HNC := Aside0.mk hnc
  have hna2 : 1 ≤ na ∧ na ≤ 12 := by omega
  have hnc2 : nc ≤ 40 := by omega
  have HAC := Aside0.mk (And.intro hA hC)
  clear HRa HRc HRa2 HRc2 HB1 HBw hSy hna hnc hA hC hal hcl hal63
  have e2 : (w1.alloc (.cells #[.int .i64 n, .int .i64 m, .slice (some ⟨ga, 0, none⟩) na ca, .slice Ac nc cc] 53)).cell? ⟨w1.heap.size, 2, none⟩ = some (.slice (some ⟨ga, 0, none⟩) na ca) := (blk_cell HSy.out.f 2).trans rfl
  have e3 : (w1.alloc (.cells #[.int .i64 n, .int .i64 m, .slice (some ⟨ga, 0, none⟩) na ca, .slice Ac nc cc] 53)).cell? ⟨w1.heap.size, 3, none⟩ = some (.slice Ac nc cc) := (blk_cell HSy.out.f 3).trans rfl
  go_wp2_with fail
  obtain ⟨W2, hW2⟩ : ∃ W2, W2 = w1.alloc (.cells #[.int .i64 n, .int .i64 m, .slice (some ⟨ga, 0, none⟩) na ca, .slice Ac nc cc] 53) := ⟨_, rfl⟩
  (try rw [← hW2] at HSy e2 e3 ⊢)
  clear hW2 e2 e3
  obtain ⟨g, hg⟩ : ∃ g, g = w1.heap.size := ⟨_, rfl⟩
  rw [← hg] at HSy ⊢
  clear hg hga
  go_loopw [5, 16] (fun v5 v16 wr => ∃ (i : Nat) (ext : List S36), v16 = .int .i64 (i : Int) ∧ i ≤ nc ∧ Aside0 (ext.length = i ∧ ∀ d ∈ ext, interleavelaw32_system.okL n d) ∧ Aside0 (interleavelaw32_system.Sy w (fun _ => True) wr g ga n m (.slice (some ⟨ga, 0, none⟩) na ca) v5 (.slice Ac nc cc) al ext cl)) (fun _ v16 _ => nc - (intOf v16).toNat)
  case atStart => exact ⟨0, [], rfl, by omega, ⟨rfl, fun d hd => by cases hd⟩, HSy⟩
  case round =>
    clear HSy
    obtain ⟨i, ext, rfl, hi, HE, HSy⟩ := hrel
    by_cases hlt : i < nc
    · have hlt' : ((i : Int) < (nc : Int)) = True := eq_true (by omega)
      obtain ⟨adc, cq, ec⟩ := Kd.R_slice1 HSy.out.hc (by have := HNC.out; omega)
      injection ec with ea eb ecc
      subst ea
      clear eb ecc cq
      obtain ⟨c5, hc5, hM5, hcells⟩ := Kd.R_getA HSy.out.hc [] (i : Int) (by omega) (by omega)
      obtain ⟨v7, rfl, hR7⟩ := hM5
      have y5 : wr.cell? (adc.add i) = some v7 := by have h := hcells 0 v7 rfl; simpa [Kd.slice] using h
      clear hcells hc5
      obtain ⟨x, hx⟩ : ∃ x, x = cl.getD (i : Int).toNat [] := ⟨_, rfl⟩
      rw [← hx] at hR7
      have hxm : x ∈ cl := by
        have hh : i < cl.length := by have := HNC.out; omega
        rw [hx, Int.toNat_natCast, List.getD_eq_getElem?_getD, List.getElem?_eq_getElem hh]
        exact List.getElem_mem hh
      have hxC := HAC.out.2 x hxm
      have hxl := hxC.1
      obtain ⟨ad8, c8, e8⟩ := Kd.R_slice1 hR7 (by omega)
      subst e8
      obtain ⟨_, e8, y8⟩ := Kd.at_int (Kd.R_reads' hR7).2.2 0 (by omega) (by omega)
      injection e8 with e8
      subst e8
      obtain ⟨x0, hx0⟩ : ∃ x0, x0 = rd x 0 := ⟨_, rfl⟩
      rw [← hx0] at y8
      have hx1 : x0 ≠ 0 ∧ -18 ≤ x0 ∧ x0 ≤ 18 := by
        refine hxC.2 x0 ?_
        rw [hx0, rd, List.getD_eq_getElem?_getD, List.getElem?_eq_getElem (show (0 : Int).toNat < x.length from by simp; omega)]
        exact List.getElem_mem _
      obtain ⟨n8, hn8⟩ : ∃ q : Nat, q = x.length := ⟨_, rfl⟩
      rw [← hn8] at y5 hxl
      clear hR7 hx hxm hxC hx0 hn8
      obtain ⟨r, hr, hr2⟩ : ∃ r, interleaveref31_Abs.f x0 = some r ∧ 1 ≤ r ∧ r ≤ 18 := by
        by_cases h : x0 < 0
        · exact ⟨-x0, by unfold interleaveref31_Abs.f; rw [if_pos h]; congr 1; unfold wrap64; omega, by omega, by omega⟩
        · exact ⟨x0, by unfold interleaveref31_Abs.f; rw [if_neg h], by omega, by omega⟩
      have hq : 0 ≤ (r - 1).tmod na ∧ (r - 1).tmod na < na := by
        rw [Int.tmod_eq_emod_of_nonneg (by omega)]; exact ⟨Int.emod_nonneg _ (by omega), Int.emod_lt_of_pos _ (by omega)⟩
      have hF := Kd.F_now HSy.out.ha
      rw [← HNA.out] at hF
      obtain ⟨_, ea, z2, z3, z4⟩ := at_T36 hF ((r - 1).tmod na) hq.1 hq.2
      injection ea with ea
      subst ea
      obtain ⟨dd, hdd⟩ : ∃ dd, dd = rd_T36 al ((r - 1).tmod na) := ⟨_, rfl⟩
      have hdm : dd ∈ al := by
        have hh : ((r - 1).tmod na).toNat < al.length := by have := HNA.out; omega
        rw [hdd, rd_T36, List.getD_eq_getElem?_getD, List.getElem?_eq_getElem hh]
        exact List.getElem_mem hh
      have hdA := HAC.out.1 dd hdm
      rw [← hdd] at z2 z3 z4
      clear hF hdd hdm
      obtain ⟨X, Y, C⟩ := dd
      have z2 : wr.cell? ⟨ga, ((r - 1).tmod na).toNat * 3, none⟩ = some (.int .i64 X) := by have h := z2; simpa [Addr.add_lit] using h
      have z3 : wr.cell? ⟨ga, ((r - 1).tmod na).toNat * 3 + 1, none⟩ = some (.int .i64 Y) := by have h := z3; simpa [Addr.add_lit] using h
      have z4 : wr.cell? ⟨ga, ((r - 1).tmod na).toNat * 3 + 2, none⟩ = some (.int .i64 C) := by have h := z4; simpa [Addr.add_lit] using h
      have z0 : wr.cell? ⟨g, 2, none⟩ = some (.slice (some ⟨ga, 0, none⟩) na ca) := (blk_cell HSy.out.f 2).trans rfl
      have z1 : wr.cell? ad8 = some (.int .i64 x0) := by have h := y8; unfold Addr.add at h; simpa using h
      have hwr : wrap64 (r - 1) = r - 1 := by unfold wrap64; omega
      have hna0 : (na = 0) = False := eq_false (by omega)
      have hq1 : (0 ≤ (r - 1).tmod na) = True := eq_true hq.1
      have hq2 : ((r - 1).tmod na < na) = True := eq_true hq.2
      obtain ⟨hdX, hdY, hdne, hdC⟩ := hdA
      have hn8p : (0 < n8) = True := eq_true (by omega)
      go_wp2_with fail
      refine start_ (n := 15) (S := fun w' => w'.cell? ⟨g, 2, none⟩ = some (.slice (some ⟨ga, 0, none⟩) na ca) ∧ w'.cell? ad8 = some (.int .i64 x0) ∧ w'.cell? ⟨ga, ((r - 1).tmod na).toNat * 3, none⟩ = some (.int .i64 X) ∧ w'.cell? ⟨ga, ((r - 1).tmod na).toNat * 3 + 1, none⟩ = some (.int .i64 Y) ∧ w'.cell? ⟨ga, ((r - 1).tmod na).toNat * 3 + 2, none⟩ = some (.int .i64 C) ∧ Aside0 (Below wr.heap.size wr w')) (ds := [14]) #[false, false, false, false, false, false, false, false, false, false, false, false, false, false, false] (by kernel_rfl) rfl rfl ⟨z0, z1, z2, z3, z4, ⟨below_drew (Below.refl _ _)⟩⟩ (fun hHeld => ?_)
      refine pure_ (i := 0) (N := some 20) (v := ?_) (a' := ?_) #[true, false, false, false, false, false, false, false, false, false, false, false, false, false, false] rfl rfl (by kernel_rfl) (fun _ _ _ h => h) (Or.inl ⟨by rfl, ?_⟩) ?_ ?_
      rotate_left
      · intro w'
        go_simp
        with_reducible rfl
      rotate_left
      · simp only [Act.put, List.setIfInBounds_toArray, List.set_cons_zero, List.set_cons_succ, i64_w, i32_w]
        rfl
      refine pure_ (i := 2) (N := some 22) (v := ?_) (a' := ?_) #[true, false, true, false, false, false, false, false, false, false, false, false, false, false, false] rfl rfl (by kernel_rfl) (fun _ _ _ h => h) (Or.inl ⟨by rfl, ?_⟩) ?_ ?_
      rotate_left
      · intro w'
        go_simp
        with_reducible rfl
      rotate_left
      · simp only [Act.put, List.setIfInBounds_toArray, List.set_cons_zero, List.set_cons_succ, i64_w, i32_w]
        rfl
      refine pure_ (i := 3) (N := some 23) (v := ?_) (a' := ?_) #[true, false, true, true, false, false, false, false, false, false, false, false, false, false, false] rfl rfl (by kernel_rfl) (fun _ _ _ h => h) (Or.inl ⟨by rfl, ?_⟩) ?_ ?_
      rotate_left
      · intro w'
        go_simp
        with_reducible rfl
      rotate_left
      · simp only [Act.put, List.setIfInBounds_toArray, List.set_cons_zero, List.set_cons_succ, i64_w, i32_w]
        rfl
      refine pure_ (i := 7) (N := some 27) (v := ?_) (a' := ?_) #[true, false, true, true, false, false, false, true, false, false, false, false, false, false, false] rfl rfl (by kernel_rfl) (fun _ _ _ h => h) (Or.inl ⟨by rfl, ?_⟩) ?_ ?_
      rotate_left
      · intro w'
        go_simp
        with_reducible rfl
      rotate_left
      · simp only [Act.put, List.setIfInBounds_toArray, List.set_cons_zero, List.set_cons_succ, i64_w, i32_w]
        rfl
      refine take_ (i := 1) (N := some 21) (v := ?_) (a' := ?_) #[true, true, true, true, false, false, false, true, false, false, false, false, false, false, false] rfl rfl (by kernel_rfl) (fun _ _ _ h => h) (Or.inl ⟨by rfl, ?_⟩) hHeld ?_ ?_
      rotate_left
      · rintro w' ⟨s0, s1, s2, s3, s4, s5⟩
        go_simp
        with_reducible rfl
      rotate_left
      · simp only [Act.put, List.setIfInBounds_toArray, List.set_cons_zero, List.set_cons_succ, i64_w, i32_w]
        rfl
      refine take_ (i := 4) (N := some 24) (v := ?_) (a' := ?_) #[true, true, true, true, true, false, false, true, false, false, false, false, false, false, false] rfl rfl (by kernel_rfl) (fun _ _ _ h => h) (Or.inl ⟨by rfl, ?_⟩) hHeld ?_ ?_
      rotate_left
      · rintro w' ⟨s0, s1, s2, s3, s4, s5⟩
        go_simp
        with_reducible rfl
      rotate_left
      · simp only [Act.put, List.setIfInBounds_toArray, List.set_cons_zero, List.set_cons_succ, i64_w, i32_w]
        rfl
      refine take_ (i := 8) (N := some 28) (v := ?_) (a' := ?_) #[true, true, true, true, true, false, false, true, true, false, false, false, false, false, false] rfl rfl (by kernel_rfl) (fun _ _ _ h => h) (Or.inl ⟨by rfl, ?_⟩) hHeld ?_ ?_
      rotate_left
      · rintro w' ⟨s0, s1, s2, s3, s4, s5⟩
        go_simp
        with_reducible rfl
      rotate_left
      · simp only [Act.put, List.setIfInBounds_toArray, List.set_cons_zero, List.set_cons_succ, i64_w, i32_w]
        rfl
      refine pure_ (i := 9) (N := some 29) (v := ?_) (a' := ?_) #[true, true, true, true, true, false, false, true, true, true, false, false, false, false, false] rfl rfl (by kernel_rfl) (fun _ _ _ h => h) (Or.inl ⟨by rfl, ?_⟩) ?_ ?_
      rotate_left
      · intro w'
        go_simp
        with_reducible rfl
      rotate_left
      · simp only [Act.put, List.setIfInBounds_toArray, List.set_cons_zero, List.set_cons_succ, i64_w, i32_w]
        rfl
      refine join_ (σ := Unit) 1 #[true, true, true, true, true, true, true, true, true, true, true, true, true, true, false] (fun _ => [(25, .int .i64 r), (26, .int .i64 (wrap64 (r - 1))), (30, .int .i64 ((r - 1).tmod na)), (31, .pointer (some ⟨ga, ((r - 1).tmod na).toNat * 3, none⟩)), (32, .agg #[.int .i64 X, .int .i64 Y, .int .i64 C]), (8, .pointer (some ⟨wr.heap.size, 0, none⟩))]) (fun _ w' => (w'.cell? ⟨g, 2, none⟩ = some (.slice (some ⟨ga, 0, none⟩) na ca) ∧ w'.cell? ad8 = some (.int .i64 x0) ∧ w'.cell? ⟨ga, ((r - 1).tmod na).toNat * 3, none⟩ = some (.int .i64 X) ∧ w'.cell? ⟨ga, ((r - 1).tmod na).toNat * 3 + 1, none⟩ = some (.int .i64 Y) ∧ w'.cell? ⟨ga, ((r - 1).tmod na).toNat * 3 + 2, none⟩ = some (.int .i64 C) ∧ Aside0 (Below wr.heap.size wr w')) ∧ Aside0 (w'.heap[wr.heap.size]? = some (.cells #[.int .i64 0, .int .i64 0, .int .i64 0] 36 (0, 0)))) ?_ ?_
      rotate_left
      · intro hCont
        refine two_ (i := 5) (j := 13) (Ni := some 25) (Nj := some 8) #[true, true, true, true, true, true, false, true, true, true, false, false, false, false, false] #[true, true, true, true, true, false, false, true, true, true, false, false, false, true, false] rfl rfl rfl rfl (by kernel_rfl) (by decide) (by decide) (fun K hK => ?_) (fun K hK => ?_)
        · skip
          obtain ⟨t0, t1, t2, t3, t4, t5⟩ := hHeld
          refine goes_ Try.func28 (by kernel_rfl) rfl #[.int .i64 x0] (by rfl) rfl rfl (by simp only [List.map_toArray, List.map_cons, List.map_nil]; rfl) ?_
          with_reducible refine (interleaveref31_Abs.calls x0 r _ hr).mono ?_
          rintro e w3 ⟨rfl, ⟨⟨kq, rfl⟩⟩⟩
          refine ⟨_, rfl, ?_⟩
          have u5 : Aside0 (Below wr.heap.size wr (World.drewN _ kq)) := ⟨pw_below_drewN t5.out kq⟩
          refine hK.out _ _ ⟨(u5.out.cell (World.block_lt_of_cell? _ _ z0)).trans z0, (u5.out.cell (World.block_lt_of_cell? _ _ z1)).trans z1, (u5.out.cell (World.block_lt_of_cell? _ _ z2)).trans z2, (u5.out.cell (World.block_lt_of_cell? _ _ z3)).trans z3, (u5.out.cell (World.block_lt_of_cell? _ _ z4)).trans z4, u5⟩ (fun hHeld => ?_)
          clear hK K
          refine norm_ (a' := ?_) ?_ ?_
          rotate_left
          · show Act.put _ (some 25) _ = _
            simp only [Act.put, List.setIfInBounds_toArray, List.set_cons_zero, List.set_cons_succ, i64_w, i32_w]
            rfl
          refine pure_ (i := 6) (N := some 26) (v := ?_) (a' := ?_) #[true, true, true, true, true, true, true, true, true, true, false, false, false, false, false] rfl rfl (by kernel_rfl) (fun _ _ _ h => h) (Or.inl ⟨by rfl, ?_⟩) ?_ ?_
          rotate_left
          · intro w'
            go_simp
            with_reducible rfl
          rotate_left
          · simp only [Act.put, List.setIfInBounds_toArray, List.set_cons_zero, List.set_cons_succ, i64_w, i32_w]
            rfl
          refine pure_ (i := 10) (N := some 30) (v := ?_) (a' := ?_) #[true, true, true, true, true, true, true, true, true, true, true, false, false, false, false] rfl rfl (by kernel_rfl) (fun _ _ _ h => h) (Or.inl ⟨by rfl, ?_⟩) ?_ ?_
          rotate_left
          · intro w'
            go_simp
            with_reducible rfl
          rotate_left
          · simp only [Act.put, List.setIfInBounds_toArray, List.set_cons_zero, List.set_cons_succ, i64_w, i32_w]
            rfl
          refine pure_ (i := 11) (N := some 31) (v := ?_) (a' := ?_) #[true, true, true, true, true, true, true, true, true, true, true, true, false, false, false] rfl rfl (by kernel_rfl) (fun _ _ _ h => h) (Or.inl ⟨by rfl, ?_⟩) ?_ ?_
          rotate_left
          · intro w'
            go_simp
            with_reducible rfl
          rotate_left
          · simp only [Act.put, List.setIfInBounds_toArray, List.set_cons_zero, List.set_cons_succ, i64_w, i32_w]
            rfl
          refine take_ (i := 12) (N := some 32) (v := ?_) (a' := ?_) #[true, true, true, true, true, true, true, true, true, true, true, true, true, false, false] rfl rfl (by kernel_rfl) (fun _ _ _ h => h) (Or.inl ⟨by rfl, ?_⟩) hHeld ?_ ?_
          rotate_left
          · rintro w' ⟨s0, s1, s2, s3, s4, s5⟩
            go_simp
            with_reducible rfl
          rotate_left
          · simp only [Act.put, List.setIfInBounds_toArray, List.set_cons_zero, List.set_cons_succ, i64_w, i32_w]
            rfl
          refine one_ (i := 13) (N := some 8) #[true, true, true, true, true, true, true, true, true, true, true, true, true, true, false] rfl rfl (by kernel_rfl) (by decide) (fun K hK => ?_)
          obtain ⟨t0, t1, t2, t3, t4, t5⟩ := hHeld
          refine value_ (w1 := ?_) (v := ?_) (by rfl) rfl ?_ ?_
          rotate_left 2
          · go_simp
            constructor
            · rfl
            · rfl
          have u5 : Aside0 (Below wr.heap.size wr ((wr.drewN (1 + kq)).alloc (.cells #[.int .i64 0, .int .i64 0, .int .i64 0] 36))) := ⟨below_alloc (pw_below_drewN (Below.refl _ _) (1 + kq)) _⟩
          have hBK : Aside0 (((wr.drewN (1 + kq)).alloc (.cells #[.int .i64 0, .int .i64 0, .int .i64 0] 36)).heap[wr.heap.size]? = some (.cells #[.int .i64 0, .int .i64 0, .int .i64 0] 36 (0, 0))) := ⟨blk_new (wr.drewN (1 + kq)) _⟩
          refine hK.out _ _ ⟨(u5.out.cell (World.block_lt_of_cell? _ _ z0)).trans z0, (u5.out.cell (World.block_lt_of_cell? _ _ z1)).trans z1, (u5.out.cell (World.block_lt_of_cell? _ _ z2)).trans z2, (u5.out.cell (World.block_lt_of_cell? _ _ z3)).trans z3, (u5.out.cell (World.block_lt_of_cell? _ _ z4)).trans z4, u5⟩ (fun hHeld => ?_)
          clear hK K
          refine norm_ (a' := ?_) ?_ ?_
          rotate_left
          · show Act.put _ (some 8) _ = _
            simp only [Act.put, List.setIfInBounds_toArray, List.set_cons_zero, List.set_cons_succ, i64_w, i32_w]
            rfl
          exact norm_ (by first | (simp only [putAll, Act.put, List.setIfInBounds_toArray, List.set_cons_zero, List.set_cons_succ]; done) | (simp only [putAll, Act.put, List.setIfInBounds_toArray, List.set_cons_zero, List.set_cons_succ]; rfl)) (hCont () _ ⟨hHeld, hBK⟩)
        · skip
          obtain ⟨t0, t1, t2, t3, t4, t5⟩ := hHeld
          refine value_ (w1 := ?_) (v := ?_) (by rfl) rfl ?_ ?_
          rotate_left 2
          · go_simp
            constructor
            · rfl
            · rfl
          have u5 : Aside0 (Below wr.heap.size wr ((wr.alloc (.cells #[.int .i64 0, .int .i64 0, .int .i64 0] 36)).drew)) := ⟨below_drew (below_alloc (Below.refl _ _) _)⟩
          have hBK : Aside0 (((wr.alloc (.cells #[.int .i64 0, .int .i64 0, .int .i64 0] 36)).drew).heap[wr.heap.size]? = some (.cells #[.int .i64 0, .int .i64 0, .int .i64 0] 36 (0, 0))) := ⟨blk_drew (blk_new wr _)⟩
          refine hK.out _ _ ⟨(u5.out.cell (World.block_lt_of_cell? _ _ z0)).trans z0, (u5.out.cell (World.block_lt_of_cell? _ _ z1)).trans z1, (u5.out.cell (World.block_lt_of_cell? _ _ z2)).trans z2, (u5.out.cell (World.block_lt_of_cell? _ _ z3)).trans z3, (u5.out.cell (World.block_lt_of_cell? _ _ z4)).trans z4, u5⟩ (fun hHeld => ?_)
          clear hK K
          refine norm_ (a' := ?_) ?_ ?_
          rotate_left
          · show Act.put _ (some 8) _ = _
            simp only [Act.put, List.setIfInBounds_toArray, List.set_cons_zero, List.set_cons_succ, i64_w, i32_w]
            rfl
          refine one_ (i := 5) (N := some 25) #[true, true, true, true, true, true, false, true, true, true, false, false, false, true, false] rfl rfl (by kernel_rfl) (by decide) (fun K hK => ?_)
          obtain ⟨t0, t1, t2, t3, t4, t5⟩ := hHeld
          refine goes_ Try.func28 (by kernel_rfl) rfl #[.int .i64 x0] (by rfl) rfl rfl (by simp only [List.map_toArray, List.map_cons, List.map_nil]; rfl) ?_
          with_reducible refine (interleaveref31_Abs.calls x0 r _ hr).mono ?_
          rintro e w3 ⟨rfl, ⟨⟨kq, rfl⟩⟩⟩
          refine ⟨_, rfl, ?_⟩
          have u5 : Aside0 (Below wr.heap.size wr (World.drewN _ kq)) := ⟨pw_below_drewN t5.out kq⟩
          replace hBK := Aside0.mk (blk_drewN hBK.out kq)
          refine hK.out _ _ ⟨(u5.out.cell (World.block_lt_of_cell? _ _ z0)).trans z0, (u5.out.cell (World.block_lt_of_cell? _ _ z1)).trans z1, (u5.out.cell (World.block_lt_of_cell? _ _ z2)).trans z2, (u5.out.cell (World.block_lt_of_cell? _ _ z3)).trans z3, (u5.out.cell (World.block_lt_of_cell? _ _ z4)).trans z4, u5⟩ (fun hHeld => ?_)
          clear hK K
          refine norm_ (a' := ?_) ?_ ?_
          rotate_left
          · show Act.put _ (some 25) _ = _
            simp only [Act.put, List.setIfInBounds_toArray, List.set_cons_zero, List.set_cons_succ, i64_w, i32_w]
            rfl
          refine pure_ (i := 6) (N := some 26) (v := ?_) (a' := ?_) #[true, true, true, true, true, true, true, true, true, true, false, false, false, true, false] rfl rfl (by kernel_rfl) (fun _ _ _ h => h) (Or.inl ⟨by rfl, ?_⟩) ?_ ?_
          rotate_left
          · intro w'
            go_simp
            with_reducible rfl
          rotate_left
          · simp only [Act.put, List.setIfInBounds_toArray, List.set_cons_zero, List.set_cons_succ, i64_w, i32_w]
            rfl
          refine pure_ (i := 10) (N := some 30) (v := ?_) (a' := ?_) #[true, true, true, true, true, true, true, true, true, true, true, false, false, true, false] rfl rfl (by kernel_rfl) (fun _ _ _ h => h) (Or.inl ⟨by rfl, ?_⟩) ?_ ?_
          rotate_left
          · intro w'
            go_simp
            with_reducible rfl
          rotate_left
          · simp only [Act.put, List.setIfInBounds_toArray, List.set_cons_zero, List.set_cons_succ, i64_w, i32_w]
            rfl
          refine pure_ (i := 11) (N := some 31) (v := ?_) (a' := ?_) #[true, true, true, true, true, true, true, true, true, true, true, true, false, true, false] rfl rfl (by kernel_rfl) (fun _ _ _ h => h) (Or.inl ⟨by rfl, ?_⟩) ?_ ?_
          rotate_left
          · intro w'
            go_simp
            with_reducible rfl
          rotate_left
          · simp only [Act.put, List.setIfInBounds_toArray, List.set_cons_zero, List.set_cons_succ, i64_w, i32_w]
            rfl
          refine take_ (i := 12) (N := some 32) (v := ?_) (a' := ?_) #[true, true, true, true, true, true, true, true, true, true, true, true, true, true, false] rfl rfl (by kernel_rfl) (fun _ _ _ h => h) (Or.inl ⟨by rfl, ?_⟩) hHeld ?_ ?_
          rotate_left
          · rintro w' ⟨s0, s1, s2, s3, s4, s5⟩
            go_simp
            with_reducible rfl
          rotate_left
          · simp only [Act.put, List.setIfInBounds_toArray, List.set_cons_zero, List.set_cons_succ, i64_w, i32_w]
            rfl
          exact norm_ (by first | (simp only [putAll, Act.put, List.setIfInBounds_toArray, List.set_cons_zero, List.set_cons_succ]; done) | (simp only [putAll, Act.put, List.setIfInBounds_toArray, List.set_cons_zero, List.set_cons_succ]; rfl)) (hCont () _ ⟨hHeld, hBK⟩)
      rintro ⟨⟩ w' ⟨hHeld, hBK⟩
      refine norm_ (a' := ?_) ?_ ?_
      rotate_left
      · simp only [putAll, Act.put, List.setIfInBounds_toArray, List.set_cons_zero, List.set_cons_succ]
        rfl
      refine last_ (i := 14) (N := none) #[true, true, true, true, true, true, true, true, true, true, true, true, true, true, true] rfl rfl (by kernel_rfl) (by decide) (fun K hK => ?_)
      obtain ⟨t0, t1, t2, t3, t4, t5⟩ := hHeld
      have tb0 : World.cell? _ ⟨wr.heap.size, 0, none⟩ = some (.int .i64 0) := (blk_cell hBK.out 0).trans rfl
      have tb1 : World.cell? _ ⟨wr.heap.size, 1, none⟩ = some (.int .i64 0) := (blk_cell hBK.out 1).trans rfl
      have tb2 : World.cell? _ ⟨wr.heap.size, 2, none⟩ = some (.int .i64 0) := (blk_cell hBK.out 2).trans rfl
      have tf0 := blk_frozen hBK.out 0
      have tf1 := blk_frozen hBK.out 1
      have tf2 := blk_frozen hBK.out 2
      refine skip_ (w1 := ?_) (by rfl) rfl ?_ ?_
      rotate_left
      · go_simp
        rfl
      refine hK.out _ _ ?_
      clear hK K
      refine done_ (by kernel_rfl) ?_

      have hgl := blk_lt HSy.out.f
      have hgal := HSy.out.hga
      have HSf := Aside0.mk (((((HSy.out.fresh.below t5.out).far hBK.out ⟨by omega, by omega, HSy.out.B.size⟩ (fun k hk => Nat.ne_of_lt hk) ⟨by decide, by decide⟩ (.int .i64 X)).far (j := 1) (blk_put hBK.out 0 _ rfl) ⟨by omega, by omega, HSy.out.B.size⟩ (fun k hk => Nat.ne_of_lt hk) ⟨by decide, by decide⟩ (.int .i64 Y)).far (j := 2) (blk_put (blk_put hBK.out 0 _ rfl) 1 _ rfl) ⟨by omega, by omega, HSy.out.B.size⟩ (fun k hk => Nat.ne_of_lt hk) ⟨by decide, by decide⟩ (.int .i64 C))).all
      have HD := Aside0.mk (blk_put (blk_put (blk_put hBK.out 0 (.int .i64 X) rfl) 1 (.int .i64 Y) rfl) 2 (.int .i64 C) rfl)
      obtain ⟨b, hb⟩ : ∃ b, b = wr.heap.size := ⟨_, rfl⟩
      rw [← hb] at HSf HD ⊢
      obtain ⟨W5, hW5⟩ : ∃ W5, W5 = ((w'.setCell ⟨b, 0, none⟩ (.int .i64 X)).setCell ⟨b, 1, none⟩ (.int .i64 Y)).setCell ⟨b, 2, none⟩ (.int .i64 C) := ⟨_, rfl⟩
      rw [← hW5] at HSf HD ⊢
      clear hHeld hBK t0 t1 t2 t3 t4 t5 tb0 tb1 tb2 tf0 tf1 tf2 hgl hgal hW5 hb z0 z1 z2 z3 z4 y5 y8 HSy hr hq hq1 hq2 hwr hlt'
      have q0 : W5.cell? ⟨b, 0, none⟩ = some (.int .i64 X) := (blk_cell HD.out 0).trans rfl
      have q1 : W5.cell? ⟨b, 1, none⟩ = some (.int .i64 Y) := (blk_cell HD.out 1).trans rfl
      have q2 : W5.cell? ⟨b, 2, none⟩ = some (.int .i64 C) := (blk_cell HD.out 2).trans rfl
      have hll : (al ++ ext).length ≤ 51 := by rw [List.length_append]; have := HE.out.1; have := HNA.out; omega
      have hwc : wrap64 (C + n8) = C + n8 := by unfold wrap64; omega
      have hal0 : 0 < al.length := by have := HNA.out; omega
      go_wp2_with (first | ((with_reducible refine gate_builtin (b := .append) (xs := #[.tmp 33, .tmp 44]) rfl ?_); at_builtin; refine interleavelaw32_system.app k36 (w0 := w) w.heap.size rfl (.tmp 33) (.tmp 44) 22 36 (.agg #[(.int .i64 0), (.int .i64 0), (.int .i64 0)]) 24 rfl Try.underlying22 info36 rfl (by decide) (by omega) u5 (al ++ ext) ⟨Y, X, C + n8⟩ [.int .i64 Y, .int .i64 X, .int .i64 (C + n8)] (fun _ => True) (fun _ => False) rfl rfl ?aP (fun _ hk => hk.elim) (fun _ _ => trivial) ?aO ?aB ?aS ?aL ?_; (case aP => exact k36_mkM _ _ _ (⟨Y, X, C + n8⟩ : S36)); (case aO => exact HSf.out.hl); (case aB => exact HSf.out.B); (case aS => exact HSf.out.B.size); (case aL => omega); intro v1 w6 ho hb6 hg6 hat6; have HSg := Aside0.mk (HSf.out.app hal0 ho hg6 hb6 hat6); clear ho hb6 hg6 hat6))
      go_roundw
      case rel => exact ⟨i + 1, ext ++ [⟨Y, X, C + n8⟩], rfl, by omega, ⟨by simp [HE.out.1], fun d hd => by
        rcases List.mem_append.1 hd with h | h
        · exact HE.out.2 d h
        · rw [List.mem_singleton.1 h]; exact ⟨hdY, hdX, fun e => hdne e.symm, by have := hdC; show -4 ≤ C + n8 ∧ C + n8 ≤ 6; (try dsimp only at this); omega⟩⟩, HSg⟩
      case measure => simp [intOf]; omega
    · have hlt' : ((i : Int) < (nc : Int)) = False := eq_false (by omega)
      have z0 : wr.cell? ⟨g, 0, none⟩ = some (.int .i64 n) := (blk_cell HSy.out.f 0).trans rfl
      go_wp2_with fail
      (try simp only [Exit.inBlock, Exit.then])
      refine bodyPost_ret (by simp [results, Try.results16, go_sem]; try rfl) rfl ?_
      exact ⟨n, _, al ++ ext, rfl, HSy.out.hl, hn, by rw [List.length_append]; have := HE.out.1; have := HNA.out; omega, fun d hd => by
        rcases List.mem_append.1 hd with h | h
        · obtain ⟨h1, h2, h3, h4⟩ := HAC.out.1 d h
          exact ⟨h1, h2, h3, by omega⟩
        · exact HE.out.2 d h, HSy.out.B⟩

/-! ### diff_Cycle: function 19 -/
def diff_Cycle.l0 : Nat → List (S36) → List Int → Int → List Int → Int → Int → Option (Bool)
  | 0, _, _, _, _, _, _ => none
  | k + 1, x0, x1, x5, x9, x10, x11 => if x11 < x10 then (if 0 ≤ x11 then (if x11 < (x9.length : Int) then (if (x1.length : Int) = 0 then (none) else (if 0 ≤ (Int.tmod (wrap64 (x11 + 1)) (x1.length : Int)) then (if (Int.tmod (wrap64 (x11 + 1)) (x1.length : Int)) < (x1.length : Int) then (if (rd x9 x11) < 0 then (some false) else (if (rd x9 x11) ≥ (x0.length : Int) then (some false) else (if (rd x1 (Int.tmod (wrap64 (x11 + 1)) (x1.length : Int))) < 0 then (some false) else (if (rd x1 (Int.tmod (wrap64 (x11 + 1)) (x1.length : Int))) ≥ (x0.length : Int) then (some false) else (if 0 ≤ (rd x9 x11) then (if (rd x9 x11) < (x0.length : Int) then (if 0 ≤ (rd x1 (Int.tmod (wrap64 (x11 + 1)) (x1.length : Int))) then (if (rd x1 (Int.tmod (wrap64 (x11 + 1)) (x1.length : Int))) < (x0.length : Int) then (if ((rd_T36 x0 (rd x9 x11)).f1) = ((rd_T36 x0 (rd x1 (Int.tmod (wrap64 (x11 + 1)) (x1.length : Int)))).f0) then (diff_Cycle.l0 k x0 x1 (wrap64 (x5 + ((rd_T36 x0 (rd x9 x11)).f2))) x9 x10 (wrap64 (x11 + 1))) else (some false)) else (none)) else (none)) else (none)) else (none)))))) else (none)) else (none))) else (none)) else (none)) else (some (decide (x5 < 0)))
def diff_Cycle.f (k : Nat) (l0 : List (S36)) (l1 : List Int) : Option (Bool) := diff_Cycle.l0 k l0 l1 0 l1 (l1.length : Int) 0
theorem diff_Cycle.mono_l : ∀ k, (∀ y0 y1 y2 y3 y4 y5, LeO (diff_Cycle.l0 k y0 y1 y2 y3 y4 y5) (diff_Cycle.l0 (k + 1) y0 y1 y2 y3 y4 y5))
  | 0 => fun _ _ _ _ _ _ r h => by simp [diff_Cycle.l0] at h
  | k + 1 => by
    have ih0 := diff_Cycle.mono_l k
    · intro y0 y1 y2 y3 y4 y5
      unfold diff_Cycle.l0
      repeat' first
      | (with_reducible exact ih0 _ _ _ _ _ _)
      | (with_reducible exact LeO.refl _)
      | (with_reducible exact LeO.none _)
      | (with_reducible refine LeO.ite ?_ ?_)
      | (with_reducible refine LeO.bind ?_ (fun _ => ?_))
      | exact ih0 _ _ _ _ _ _
      | exact LeO.none _
      | refine LeO.ite ?_ ?_
      | refine LeO.bind ?_ (fun _ => ?_)
theorem diff_Cycle.mono : ∀ a0 a1 k, LeO (diff_Cycle.f k a0 a1) (diff_Cycle.f (k + 1) a0 a1) := by
  intro a0 a1 k
  have ih0 := diff_Cycle.mono_l k
  unfold diff_Cycle.f
  repeat' first
      | (with_reducible exact ih0 _ _ _ _ _ _)
      | (with_reducible exact LeO.refl _)
      | (with_reducible exact LeO.none _)
      | (with_reducible refine LeO.ite ?_ ?_)
      | (with_reducible refine LeO.bind ?_ (fun _ => ?_))
      | exact ih0 _ _ _ _ _ _
      | exact LeO.none _
      | refine LeO.ite ?_ ?_
      | refine LeO.bind ?_ (fun _ => ?_)
set_option maxHeartbeats 8000000 in
set_option maxRecDepth 100000 in
theorem diff_Cycle.calls (k : Nat) (A0 : Option Addr) (c0 : Nat) (l0 : List (S36)) (A1 : Option Addr) (c1 : Nat) (l1 : List Int) (r : Bool) (w : World) (hr0 : Kd.C k36 w A0 l0.length l0) (hc0 : l0.length ≤ c0) (hr1 : Kd.C (Kd.int .i64) w A1 l1.length l1) (hc1 : l1.length ≤ c1) (h : diff_Cycle.f k l0 l1 = some r) :
    Calls Try.prog 19 #[.slice A0 l0.length c0, .slice A1 l1.length c1] w fun e w' => e = .returned (.bool r) ∧ Drawn0 w w' := by
  have HR0 := Aside0.mk hr0
  have HC0 := Aside0.mk hc0
  clear hr0 hc0
  have HR1 := Aside0.mk hr1
  have HC1 := Aside0.mk hc1
  clear hr1 hc1
  have H : (diff_Cycle.l0 k l0 l1 0 l1 (l1.length : Int) 0) = some r := h
  clear h
  have H' := Aside0.mk H
  clear H
  go_enter Try.func19, Try.ntmps19
  go_wp2
  repeat (go_quiet (fail); try go_wp2)
  go_loopg [5, 11] k (fun kq v5 v11 w' => ∃ (x5_1 : Int) (x11_1 : Int), v5 = .int .i64 x5_1 ∧ v11 = .int .i64 x11_1 ∧ Aside0 (diff_Cycle.l0 kq l0 l1 x5_1 l1 (l1.length : Int) x11_1 = some r) ∧ Aside0 (kq ≤ k) ∧ Drawn0 w w')
  case atStart => exact ⟨(0), (0), (by first | rfl | (simp; done) | (simp [*]; done)), (by first | rfl | (simp; done) | (simp [*]; done)), H', ⟨Nat.le_refl _⟩, by repeat (first | exact Drawn0.refl _ | apply Drawn0.step)⟩
  case round =>
    clear H'
    try clear c1
    try clear p2
    obtain ⟨x5_1, x11_1, rfl, rfl, HA, HK1, ⟨m1, rfl⟩⟩ := hrel
    cases gk with
    | zero => exact absurd HA.out (by simp [diff_Cycle.l0])
    | succ k1 =>
      have H := HA.out
      clear HA
      simp only [diff_Cycle.l0] at H
      by_cases c3 : x11_1 < (l1.length : Int)
      · rw [if_pos c3] at H
        have c3b0 : decide (x11_1 < (l1.length : Int)) = true := decide_eq_true c3
        clear c3
        by_cases c4 : 0 ≤ x11_1
        · rw [if_pos c4] at H
          have c4b0 : decide (0 ≤ x11_1) = true := decide_eq_true c4
          clear c4
          by_cases c5 : x11_1 < (l1.length : Int)
          · rw [if_pos c5] at H
            have c5b0 : decide (x11_1 < (l1.length : Int)) = true := decide_eq_true c5
            clear c5
            by_cases c6 : (l1.length : Int) = 0
            · rw [if_pos c6] at H
              exact absurd H (by simp)
            · rw [if_neg c6] at H
              have c6b0 : ((l1.length : Int) == 0) = false := beq_eq_false_iff_ne.mpr c6
              have c6b1 : ((l1.length : Int) != 0) = true := bne_iff_ne.mpr c6
              have c6b2 : ¬ (l1 = []) := fun h_ => c6 (by rw [h_]; rfl)
              obtain ⟨ji7, hji7⟩ : ∃ j_ : Int, (Int.tmod (wrap64 (x11_1 + 1)) (l1.length : Int)) = j_ := ⟨_, rfl⟩
              replace H : (if 0 ≤ (ji7) then (if (ji7) < (l1.length : Int) then (if (rd l1 x11_1) < 0 then (some false) else (if (rd l1 x11_1) ≥ (l0.length : Int) then (some false) else (if (rd l1 (ji7)) < 0 then (some false) else (if (rd l1 (ji7)) ≥ (l0.length : Int) then (some false) else (if 0 ≤ (rd l1 x11_1) then (if (rd l1 x11_1) < (l0.length : Int) then (if 0 ≤ (rd l1 (ji7)) then (if (rd l1 (ji7)) < (l0.length : Int) then (if ((rd_T36 l0 (rd l1 x11_1)).f1) = ((rd_T36 l0 (rd l1 (ji7))).f0) then (diff_Cycle.l0 k1 l0 l1 (wrap64 (x5_1 + ((rd_T36 l0 (rd l1 x11_1)).f2))) l1 (l1.length : Int) (wrap64 (x11_1 + 1))) else (some false)) else (none)) else (none)) else (none)) else (none)))))) else (none)) else (none)) = some r := by first | (rw [hji7] at H; exact H) | (simp only [hji7] at H ⊢; exact H)
              by_cases c8 : 0 ≤ (ji7)
              · rw [if_pos c8] at H
                have c8b0 : decide (0 ≤ (ji7)) = true := decide_eq_true c8
                clear c8
                by_cases c9 : (ji7) < (l1.length : Int)
                · rw [if_pos c9] at H
                  have c9b0 : decide ((ji7) < (l1.length : Int)) = true := decide_eq_true c9
                  clear c9
                  by_cases c10 : (rd l1 x11_1) < 0
                  · rw [if_pos c10] at H
                    have c10b0 : decide ((rd l1 x11_1) < 0) = true := decide_eq_true c10
                    clear c10
                    obtain rfl := Option.some.inj H
                    have p157 : 0 ≤ (x11_1 : Int) := of_decide_eq_true (by first | (with_reducible assumption) | assumption)
                    have q157 : x11_1 < (l1.length : Int) := of_decide_eq_true (by first | (with_reducible assumption) | assumption)
                    obtain ⟨ad157, e157, hx157_0⟩ := Kd.at_int HR1.out x11_1 p157 q157
                    cases e157
                    replace p157 := eq_true p157
                    replace q157 := eq_true q157
                    have p158 : 0 ≤ ((ji7) : Int) := of_decide_eq_true (by first | (with_reducible assumption) | assumption)
                    have q158 : (ji7) < (l1.length : Int) := of_decide_eq_true (by first | (with_reducible assumption) | assumption)
                    obtain ⟨ad158, e158, hx158_0⟩ := Kd.at_int HR1.out (ji7) p158 q158
                    obtain rfl : ad157 = ad158 := (by injection e158)
                    replace p158 := eq_true p158
                    replace q158 := eq_true q158
                    go_wp2
                    repeat (go_quiet (fail); try go_wp2)
                    go_ret
                    exact ⟨by first | rfl | (simp; done) | (simp only [← hji7] <;> (first | rfl | simp)) | (simp [*]; done), by repeat (first | exact Drawn0.refl _ | apply Drawn0.step)⟩
                  · rw [if_neg c10] at H
                    have c10b0 : decide ((rd l1 x11_1) < 0) = false := decide_eq_false c10
                    clear c10
                    by_cases c11 : (rd l1 x11_1) ≥ (l0.length : Int)
                    · rw [if_pos c11] at H
                      have c11b0 : decide ((l0.length : Int) ≤ (rd l1 x11_1)) = true := decide_eq_true c11
                      clear c11
                      obtain rfl := Option.some.inj H
                      have p157 : 0 ≤ (x11_1 : Int) := of_decide_eq_true (by first | (with_reducible assumption) | assumption)
                      have q157 : x11_1 < (l1.length : Int) := of_decide_eq_true (by first | (with_reducible assumption) | assumption)
                      obtain ⟨ad157, e157, hx157_0⟩ := Kd.at_int HR1.out x11_1 p157 q157
                      cases e157
                      replace p157 := eq_true p157
                      replace q157 := eq_true q157
                      have p158 : 0 ≤ ((ji7) : Int) := of_decide_eq_true (by first | (with_reducible assumption) | assumption)
                      have q158 : (ji7) < (l1.length : Int) := of_decide_eq_true (by first | (with_reducible assumption) | assumption)
                      obtain ⟨ad158, e158, hx158_0⟩ := Kd.at_int HR1.out (ji7) p158 q158
                      obtain rfl : ad157 = ad158 := (by injection e158)
                      replace p158 := eq_true p158
                      replace q158 := eq_true q158
                      go_wp2
                      repeat (go_quiet (fail); try go_wp2)
                      go_ret
                      exact ⟨by first | rfl | (simp; done) | (simp only [← hji7] <;> (first | rfl | simp)) | (simp [*]; done), by repeat (first | exact Drawn0.refl _ | apply Drawn0.step)⟩
                    · rw [if_neg c11] at H
                      have c11b0 : decide ((l0.length : Int) ≤ (rd l1 x11_1)) = false := decide_eq_false c11
                      clear c11
                      by_cases c12 : (rd l1 (ji7)) < 0
                      · rw [if_pos c12] at H
                        have c12b0 : decide ((rd l1 (ji7)) < 0) = true := decide_eq_true c12
                        clear c12
                        obtain rfl := Option.some.inj H
                        have p157 : 0 ≤ (x11_1 : Int) := of_decide_eq_true (by first | (with_reducible assumption) | assumption)
                        have q157 : x11_1 < (l1.length : Int) := of_decide_eq_true (by first | (with_reducible assumption) | assumption)
                        obtain ⟨ad157, e157, hx157_0⟩ := Kd.at_int HR1.out x11_1 p157 q157
                        cases e157
                        replace p157 := eq_true p157
                        replace q157 := eq_true q157
                        have p158 : 0 ≤ ((ji7) : Int) := of_decide_eq_true (by first | (with_reducible assumption) | assumption)
                        have q158 : (ji7) < (l1.length : Int) := of_decide_eq_true (by first | (with_reducible assumption) | assumption)
                        obtain ⟨ad158, e158, hx158_0⟩ := Kd.at_int HR1.out (ji7) p158 q158
                        obtain rfl : ad157 = ad158 := (by injection e158)
                        replace p158 := eq_true p158
                        replace q158 := eq_true q158
                        go_wp2
                        repeat (go_quiet (fail); try go_wp2)
                        go_ret
                        exact ⟨by first | rfl | (simp; done) | (simp only [← hji7] <;> (first | rfl | simp)) | (simp [*]; done), by repeat (first | exact Drawn0.refl _ | apply Drawn0.step)⟩
                      · rw [if_neg c12] at H
                        have c12b0 : decide ((rd l1 (ji7)) < 0) = false := decide_eq_false c12
                        clear c12
                        by_cases c13 : (rd l1 (ji7)) ≥ (l0.length : Int)
                        · rw [if_pos c13] at H
                          have c13b0 : decide ((l0.length : Int) ≤ (rd l1 (ji7))) = true := decide_eq_true c13
                          clear c13
                          obtain rfl := Option.some.inj H
                          have p157 : 0 ≤ (x11_1 : Int) := of_decide_eq_true (by first | (with_reducible assumption) | assumption)
                          have q157 : x11_1 < (l1.length : Int) := of_decide_eq_true (by first | (with_reducible assumption) | assumption)
                          obtain ⟨ad157, e157, hx157_0⟩ := Kd.at_int HR1.out x11_1 p157 q157
                          cases e157
                          replace p157 := eq_true p157
                          replace q157 := eq_true q157
                          have p158 : 0 ≤ ((ji7) : Int) := of_decide_eq_true (by first | (with_reducible assumption) | assumption)
                          have q158 : (ji7) < (l1.length : Int) := of_decide_eq_true (by first | (with_reducible assumption) | assumption)
                          obtain ⟨ad158, e158, hx158_0⟩ := Kd.at_int HR1.out (ji7) p158 q158
                          obtain rfl : ad157 = ad158 := (by injection e158)
                          replace p158 := eq_true p158
                          replace q158 := eq_true q158
                          go_wp2
                          repeat (go_quiet (fail); try go_wp2)
                          go_ret
                          exact ⟨by first | rfl | (simp; done) | (simp only [← hji7] <;> (first | rfl | simp)) | (simp [*]; done), by repeat (first | exact Drawn0.refl _ | apply Drawn0.step)⟩
                        · rw [if_neg c13] at H
                          have c13b0 : decide ((l0.length : Int) ≤ (rd l1 (ji7))) = false := decide_eq_false c13
                          clear c13
                          by_cases c14 : 0 ≤ (rd l1 x11_1)
                          · rw [if_pos c14] at H
                            have c14b0 : decide (0 ≤ (rd l1 x11_1)) = true := decide_eq_true c14
                            clear c14
                            by_cases c15 : (rd l1 x11_1) < (l0.length : Int)
                            · rw [if_pos c15] at H
                              have c15b0 : decide ((rd l1 x11_1) < (l0.length : Int)) = true := decide_eq_true c15
                              clear c15
                              by_cases c16 : 0 ≤ (rd l1 (ji7))
                              · rw [if_pos c16] at H
                                have c16b0 : decide (0 ≤ (rd l1 (ji7))) = true := decide_eq_true c16
                                clear c16
                                by_cases c17 : (rd l1 (ji7)) < (l0.length : Int)
                                · rw [if_pos c17] at H
                                  have c17b0 : decide ((rd l1 (ji7)) < (l0.length : Int)) = true := decide_eq_true c17
                                  clear c17
                                  by_cases c18 : ((rd_T36 l0 (rd l1 x11_1)).f1) = ((rd_T36 l0 (rd l1 (ji7))).f0)
                                  · rw [if_pos c18] at H
                                    have c18b0 : (((rd_T36 l0 (rd l1 x11_1)).f1) == ((rd_T36 l0 (rd l1 (ji7))).f0)) = true := beq_iff_eq.mpr c18
                                    have c18b1 : (((rd_T36 l0 (rd l1 x11_1)).f1) != ((rd_T36 l0 (rd l1 (ji7))).f0)) = false := bne_eq_false_iff_eq.mpr c18
                                    clear c18
                                    have H' := Aside0.mk H
                                    clear H
                                    have p157 : 0 ≤ (x11_1 : Int) := of_decide_eq_true (by first | (with_reducible assumption) | assumption)
                                    have q157 : x11_1 < (l1.length : Int) := of_decide_eq_true (by first | (with_reducible assumption) | assumption)
                                    obtain ⟨ad157, e157, hx157_0⟩ := Kd.at_int HR1.out x11_1 p157 q157
                                    cases e157
                                    replace p157 := eq_true p157
                                    replace q157 := eq_true q157
                                    have p158 : 0 ≤ ((ji7) : Int) := of_decide_eq_true (by first | (with_reducible assumption) | assumption)
                                    have q158 : (ji7) < (l1.length : Int) := of_decide_eq_true (by first | (with_reducible assumption) | assumption)
                                    obtain ⟨ad158, e158, hx158_0⟩ := Kd.at_int HR1.out (ji7) p158 q158
                                    obtain rfl : ad157 = ad158 := (by injection e158)
                                    replace p158 := eq_true p158
                                    replace q158 := eq_true q158
                                    have p159 : 0 ≤ ((rd l1 x11_1) : Int) := of_decide_eq_true (by first | (with_reducible assumption) | assumption)
                                    have q159 : (rd l1 x11_1) < (l0.length : Int) := of_decide_eq_true (by first | (with_reducible assumption) | assumption)
                                    obtain ⟨ad159, e159, hx159_0, hx159_1, hx159_2⟩ := at_T36 HR0.out (rd l1 x11_1) p159 q159
                                    cases e159
                                    replace p159 := eq_true p159
                                    replace q159 := eq_true q159
                                    have p160 : 0 ≤ ((rd l1 (ji7)) : Int) := of_decide_eq_true (by first | (with_reducible assumption) | assumption)
                                    have q160 : (rd l1 (ji7)) < (l0.length : Int) := of_decide_eq_true (by first | (with_reducible assumption) | assumption)
                                    obtain ⟨ad160, e160, hx160_0, hx160_1, hx160_2⟩ := at_T36 HR0.out (rd l1 (ji7)) p160 q160
                                    obtain rfl : ad159 = ad160 := (by injection e160)
                                    replace p160 := eq_true p160
                                    replace q160 := eq_true q160
                                    have p161 : 0 ≤ ((rd l1 x11_1) : Int) := of_decide_eq_true (by first | (with_reducible assumption) | assumption)
                                    have q161 : (rd l1 x11_1) < (l0.length : Int) := of_decide_eq_true (by first | (with_reducible assumption) | assumption)
                                    obtain ⟨ad161, e161, hx161_0, hx161_1, hx161_2⟩ := at_T36 HR0.out (rd l1 x11_1) p161 q161
                                    obtain rfl : ad159 = ad161 := (by injection e161)
                                    replace p161 := eq_true p161
                                    replace q161 := eq_true q161
                                    go_wp2
                                    repeat (go_quiet (fail); try go_wp2)
                                    go_roundg k1
                                    case measure => have := HK1.out; omega
                                    case rel => exact ⟨(wrap64 (x5_1 + ((rd_T36 l0 (rd l1 x11_1)).f2))), (wrap64 (x11_1 + 1)), (by first | rfl | (simp; done) | (simp [*]; done)), (by first | rfl | (simp; done) | (simp [*]; done)), H', ⟨by have := HK1.out; omega⟩, by repeat (first | exact Drawn0.refl _ | apply Drawn0.step)⟩
                                  · rw [if_neg c18] at H
                                    have c18b0 : (((rd_T36 l0 (rd l1 x11_1)).f1) == ((rd_T36 l0 (rd l1 (ji7))).f0)) = false := beq_eq_false_iff_ne.mpr c18
                                    have c18b1 : (((rd_T36 l0 (rd l1 x11_1)).f1) != ((rd_T36 l0 (rd l1 (ji7))).f0)) = true := bne_iff_ne.mpr c18
                                    obtain rfl := Option.some.inj H
                                    have p157 : 0 ≤ (x11_1 : Int) := of_decide_eq_true (by first | (with_reducible assumption) | assumption)
                                    have q157 : x11_1 < (l1.length : Int) := of_decide_eq_true (by first | (with_reducible assumption) | assumption)
                                    obtain ⟨ad157, e157, hx157_0⟩ := Kd.at_int HR1.out x11_1 p157 q157
                                    cases e157
                                    replace p157 := eq_true p157
                                    replace q157 := eq_true q157
                                    have p158 : 0 ≤ ((ji7) : Int) := of_decide_eq_true (by first | (with_reducible assumption) | assumption)
                                    have q158 : (ji7) < (l1.length : Int) := of_decide_eq_true (by first | (with_reducible assumption) | assumption)
                                    obtain ⟨ad158, e158, hx158_0⟩ := Kd.at_int HR1.out (ji7) p158 q158
                                    obtain rfl : ad157 = ad158 := (by injection e158)
                                    replace p158 := eq_true p158
                                    replace q158 := eq_true q158
                                    have p159 : 0 ≤ ((rd l1 x11_1) : Int) := of_decide_eq_true (by first | (with_reducible assumption) | assumption)
                                    have q159 : (rd l1 x11_1) < (l0.length : Int) := of_decide_eq_true (by first | (with_reducible assumption) | assumption)
                                    obtain ⟨ad159, e159, hx159_0, hx159_1, hx159_2⟩ := at_T36 HR0.out (rd l1 x11_1) p159 q159
                                    cases e159
                                    replace p159 := eq_true p159
                                    replace q159 := eq_true q159
                                    have p160 : 0 ≤ ((rd l1 (ji7)) : Int) := of_decide_eq_true (by first | (with_reducible assumption) | assumption)
                                    have q160 : (rd l1 (ji7)) < (l0.length : Int) := of_decide_eq_true (by first | (with_reducible assumption) | assumption)
                                    obtain ⟨ad160, e160, hx160_0, hx160_1, hx160_2⟩ := at_T36 HR0.out (rd l1 (ji7)) p160 q160
                                    obtain rfl : ad159 = ad160 := (by injection e160)
                                    replace p160 := eq_true p160
                                    replace q160 := eq_true q160
                                    go_wp2
                                    repeat (go_quiet (fail); try go_wp2)
                                    go_ret
                                    exact ⟨by first | rfl | (simp; done) | (simp only [← hji7] <;> (first | rfl | simp)) | (simp [*]; done), by repeat (first | exact Drawn0.refl _ | apply Drawn0.step)⟩
                                · rw [if_neg c17] at H
                                  exact absurd H (by simp)
                              · rw [if_neg c16] at H
                                exact absurd H (by simp)
                            · rw [if_neg c15] at H
                              exact absurd H (by simp)
                          · rw [if_neg c14] at H
                            exact absurd H (by simp)
                · rw [if_neg c9] at H
                  exact absurd H (by simp)
              · rw [if_neg c8] at H
                exact absurd H (by simp)
          · rw [if_neg c5] at H
            exact absurd H (by simp)
        · rw [if_neg c4] at H
          exact absurd H (by simp)
      · rw [if_neg c3] at H
        have c3b0 : decide (x11_1 < (l1.length : Int)) = false := decide_eq_false c3
        clear c3
        obtain rfl := Option.some.inj H
        go_wp2
        repeat (go_quiet (fail); try go_wp2)
        go_ret
        exact ⟨by first | rfl | (simp; done) | (simp [*]; done), by repeat (first | exact Drawn0.refl _ | apply Drawn0.step)⟩

-- NOT PRINTED: function 32 (api_Diff_32)

-- NOT PRINTED: function 29 (api_Diff_29)

end Go.Proofs.Ytolfnlamknmeaaa.MDiffGreatest
