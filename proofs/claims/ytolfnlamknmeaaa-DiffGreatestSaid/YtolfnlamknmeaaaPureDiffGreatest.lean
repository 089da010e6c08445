/- the solution that Solve answers is above every other solution without positive values: the plain statement of DiffGreatest, for every argument within the bounds of its row. -/
import Derived.Test.YtolfnlamknmeaaaMDiffGreatestx
import Derived.Test.YtolfnlamknmeaaaDm
import Derived.OpenShut
namespace Go.Proofs.Ytolfnlamknmeaaa.Pure
open Go.RowKit Go.Proofs.Ytolfnlamknmeaaa Go.Proofs.Ytolfnlamknmeaaa.MDiffGreatest Go.Proofs.YtolfnlamknmeaaaW.PrintWords Go.Proofs.YtolfnlamknmeaaaW.PrintLast Go.Proofs.YtolfnlamknmeaaaW.PrintMore
set_option linter.unusedVariables false
set_option linter.unusedSimpArgs false

theorem w1 {i : Int} (h0 : -1 ≤ i) (h : i ≤ 35184372088832) : wrap64 (i + 1) = i + 1 := by unfold wrap64; omega
theorem wrap_self {x : Int} (h : -9223372036854775808 ≤ x ∧ x ≤ 9223372036854775807) : wrap64 x = x := by unfold wrap64; omega
theorem tmod_bd {a n : Int} (ha : 0 ≤ a) (hn : 0 < n) : 0 ≤ Int.tmod a n ∧ Int.tmod a n < n := by
  rw [Int.tmod_eq_emod_of_nonneg ha]
  exact ⟨Int.emod_nonneg a (by omega), Int.emod_lt_of_pos a hn⟩
theorem awake_ev : ∃ K, ∀ k, K ≤ k → interleavelaw32_awake.f k = some true :=
  Ev.of (g := fun k => interleavelaw32_awake.f k) interleavelaw32_awake.mono (k := 20) (by decide +kernel)
def XX (l : List S36) (i : Nat) : Int := (rd_T36 l (i : Int)).f0
def YY (l : List S36) (i : Nat) : Int := (rd_T36 l (i : Int)).f1
def CC (l : List S36) (i : Nat) : Int := (rd_T36 l (i : Int)).f2
/-- A system in the range for which Solve is promised. -/
structure Fit (n : Nat) (l : List S36) : Prop where
  n32 : n ≤ 32
  len : l.length ≤ 1024
  sys : Dm.Sys l.length n (XX l) (YY l) (CC l)
  bound : ∀ i, i < l.length → -1048577 ≤ CC l i ∧ CC l i ≤ 1048577
def Bd (n : Nat) (x : List Int) (B : Int) : Prop := ∀ v : Int, 0 ≤ v → v < n → -(1048577 * B) ≤ rd x v ∧ rd x v ≤ 0
theorem rd_set (l : List Int) (i j v : Int) (hi : 0 ≤ i) (hi2 : i < (l.length : Int)) (hj : 0 ≤ j) : rd (l.set i.toNat v) j = if j = i then v else rd l j := by
  unfold rd
  simp only [List.getD_eq_getElem?_getD, List.getElem?_set]
  by_cases e : j = i
  · subst e; simp; rw [if_pos (by omega)]; rfl
  · rw [if_neg (by omega), if_neg e]
theorem sum_eq {n : Nat} {l : List S36} (hf : Fit n l) {x : List Int} {B : Int} (hb : Bd n x B) (hB : 0 ≤ B ∧ B ≤ 1000000) {j : Nat} (hj : j < l.length) : diff_Solve.sum l x (j : Int) = rd x (YY l j) + CC l j := by
  have hy := hf.sys.hy j hj
  have h1 := hb _ hy.1 hy.2
  have h2 := hf.bound j hj
  unfold diff_Solve.sum
  show wrap64 (rd x (YY l j) + CC l j) = _
  exact wrap_self (by omega)
theorem pass_inv {n : Nat} {l : List S36} (hf : Fit n l) {x y : List Int} {r : Nat} {lev : Int → Int} {B : Int} (hx : x.length = n) (hy : y.length = n) (hI : Dm.Inv l.length n (XX l) (YY l) (CC l) r 0 (rd x) (rd y) lev) (hb : Bd n x B) (hB : 0 ≤ B ∧ B ≤ 500000) :
    ∀ j, j ≤ l.length → ∃ lev', (diff_Solve.pass l x y j).1.length = n ∧ (diff_Solve.pass l x y j).2.1.length = n ∧ Dm.Inv l.length n (XX l) (YY l) (CC l) r j (rd (diff_Solve.pass l x y j).1) (rd (diff_Solve.pass l x y j).2.1) lev' ∧ Bd n (diff_Solve.pass l x y j).1 (B + j) ∧
      (((diff_Solve.pass l x y j).2.2 = -1 ∧ (diff_Solve.pass l x y j).1 = x ∧ ∀ i, i < j → rd x (XX l i) ≤ rd x (YY l i) + CC l i) ∨ (0 ≤ (diff_Solve.pass l x y j).2.2 ∧ (diff_Solve.pass l x y j).2.2 < n ∧ lev' (diff_Solve.pass l x y j).2.2 = r)) := by
  intro j
  induction j with
  | zero => exact fun _ => ⟨lev, hx, hy, hI, (by rw [show B + ((0 : Nat) : Int) = B from by omega]; exact hb), .inl ⟨rfl, rfl, fun i hi => by omega⟩⟩
  | succ j ih =>
    intro hj
    obtain ⟨lev', i1, i2, i3, i4, i5⟩ := ih (by omega)
    have hlen := hf.len
    have hsum := sum_eq hf i4 (by omega) (by omega : j < l.length)
    have hX := hf.sys.hx j (by omega)
    have hY := hf.sys.hy j (by omega)
    have hC := hf.bound j (by omega)
    show ∃ lev', (diff_Solve.low l (j : Int) (diff_Solve.pass l x y j)).1.length = n ∧ (diff_Solve.low l (j : Int) (diff_Solve.pass l x y j)).2.1.length = n ∧ Dm.Inv l.length n (XX l) (YY l) (CC l) r (j + 1) (rd (diff_Solve.low l (j : Int) (diff_Solve.pass l x y j)).1) (rd (diff_Solve.low l (j : Int) (diff_Solve.pass l x y j)).2.1) lev' ∧ Bd n (diff_Solve.low l (j : Int) (diff_Solve.pass l x y j)).1 (B + ((j + 1 : Nat) : Int)) ∧
      (((diff_Solve.low l (j : Int) (diff_Solve.pass l x y j)).2.2 = -1 ∧ (diff_Solve.low l (j : Int) (diff_Solve.pass l x y j)).1 = x ∧ ∀ i, i < j + 1 → rd x (XX l i) ≤ rd x (YY l i) + CC l i) ∨ (0 ≤ (diff_Solve.low l (j : Int) (diff_Solve.pass l x y j)).2.2 ∧ (diff_Solve.low l (j : Int) (diff_Solve.pass l x y j)).2.2 < n ∧ lev' (diff_Solve.low l (j : Int) (diff_Solve.pass l x y j)).2.2 = r))
    obtain ⟨s, hs⟩ : ∃ s, s = diff_Solve.pass l x y j := ⟨_, rfl⟩
    rw [← hs] at i1 i2 i3 i4 i5 hsum ⊢
    by_cases hlow : diff_Solve.lowers l s.1 (j : Int) = true
    · have hlt : rd s.1 (YY l j) + CC l j < rd s.1 (XX l j) := by
        unfold diff_Solve.lowers at hlow
        rw [hsum] at hlow
        exact of_decide_eq_true hlow
      have e : diff_Solve.low l (j : Int) s = (s.1.set (XX l j).toNat (rd s.1 (YY l j) + CC l j), s.2.1.set (XX l j).toNat (j : Int), XX l j) := by
        unfold diff_Solve.low; rw [if_pos hlow, hsum]; rfl
      rw [e]
      have hxs := fun v (h0 : 0 ≤ v) => rd_set s.1 (XX l j) v (rd s.1 (YY l j) + CC l j) hX.1 (by omega) h0
      have hys := fun v (h0 : 0 ≤ v) => rd_set s.2.1 (XX l j) v (j : Int) hX.1 (by omega) h0
      refine ⟨fun v => if v = XX l j then (r : Int) else lev' v, by simpa using i1, by simpa using i2, ?_, ?_, .inr ⟨hX.1, hX.2, by simp⟩⟩
      · exact i3.relax hf.sys (by omega) (by omega) hlt (fun v h0 _ => hxs v h0) (fun v h0 _ => hys v h0) (fun v _ _ => rfl)
      · intro v h0 h1
        show -(1048577 * (B + ((j + 1 : Nat) : Int))) ≤ rd (s.1.set (XX l j).toNat (rd s.1 (YY l j) + CC l j)) v ∧ rd (s.1.set (XX l j).toNat (rd s.1 (YY l j) + CC l j)) v ≤ 0
        rw [hxs v h0]
        have h2 := i4 v h0 h1
        have h3 := i4 _ hY.1 hY.2
        have h4 := i4 _ hX.1 hX.2
        split <;> omega
    · have hge : rd s.1 (XX l j) ≤ rd s.1 (YY l j) + CC l j := by
        unfold diff_Solve.lowers at hlow
        rw [hsum] at hlow
        have h2 : ¬ (rd s.1 (YY l j) + CC l j < rd s.1 (rd_T36 l (j : Int)).f0) := fun h => hlow (decide_eq_true h)
        have h3 : (rd_T36 l (j : Int)).f0 = XX l j := rfl
        rw [h3] at h2; omega
      have e : diff_Solve.low l (j : Int) s = s := by unfold diff_Solve.low; rw [if_neg hlow]
      rw [e]
      refine ⟨lev', i1, i2, i3.skip hge, fun v h0 h1 => by have := i4 v h0 h1; omega, ?_⟩
      rcases i5 with ⟨j1, j2, j3⟩ | j1
      · refine .inl ⟨j1, j2, fun i hi => ?_⟩
        by_cases ei : i = j
        · subst ei; rw [j2] at hge; exact hge
        · exact j3 i (by omega)
      · exact .inr j1
/-- What the rounds come to: a solution that no constraint lowers, or a variable that was lowered in the last round. -/
theorem rnds_inv {n : Nat} {l : List S36} (hf : Fit n l) : ∀ (M r : Nat) (x y : List Int) (last : Int) (lev : Int → Int) (B : Int), r + M = n → x.length = n → y.length = n → Dm.Inv l.length n (XX l) (YY l) (CC l) r 0 (rd x) (rd y) lev → Bd n x B → 0 ≤ B → B + (M + 1) * 1024 ≤ 500000 →
    (diff_Solve.rnds l (M + 1) x y last).1.length = n ∧ (diff_Solve.rnds l (M + 1) x y last).2.1.length = n ∧ Bd n (diff_Solve.rnds l (M + 1) x y last).1 500000 ∧
      (((diff_Solve.rnds l (M + 1) x y last).2.2 < 0 ∧ ∀ i, i < l.length → rd (diff_Solve.rnds l (M + 1) x y last).1 (XX l i) ≤ rd (diff_Solve.rnds l (M + 1) x y last).1 (YY l i) + CC l i) ∨
       (0 ≤ (diff_Solve.rnds l (M + 1) x y last).2.2 ∧ (diff_Solve.rnds l (M + 1) x y last).2.2 < n ∧ ∃ lev', Dm.Inv l.length n (XX l) (YY l) (CC l) n l.length (rd (diff_Solve.rnds l (M + 1) x y last).1) (rd (diff_Solve.rnds l (M + 1) x y last).2.1) lev' ∧ lev' (diff_Solve.rnds l (M + 1) x y last).2.2 = n)) := by
  intro M
  induction M with
  | zero =>
    intro r x y last lev B hr hx hy hI hb hB0 hB
    have hlen := hf.len
    obtain ⟨lev', i1, i2, i3, i4, i5⟩ := pass_inv hf hx hy hI hb ⟨hB0, by omega⟩ l.length (Nat.le_refl _)
    have hrn : r = n := by omega
    subst hrn
    have e : diff_Solve.rnds l (0 + 1) x y last = diff_Solve.pass l x y l.length := by
      rw [diff_Solve.rnds]
      by_cases h : (diff_Solve.pass l x y l.length).2.2 < 0
      · rw [if_pos h]
      · rw [if_neg h, diff_Solve.rnds]
    rw [e]
    refine ⟨i1, i2, fun v h0 h1 => by have := i4 v h0 h1; omega, ?_⟩
    rcases i5 with ⟨j1, j2, j3⟩ | ⟨j1, j2, j3⟩
    · exact .inl ⟨by omega, by rw [j2]; exact j3⟩
    · exact .inr ⟨j1, j2, lev', i3, j3⟩
  | succ M ih =>
    intro r x y last lev B hr hx hy hI hb hB0 hB
    have hlen := hf.len
    obtain ⟨lev', i1, i2, i3, i4, i5⟩ := pass_inv hf hx hy hI hb ⟨hB0, by omega⟩ l.length (Nat.le_refl _)
    rw [diff_Solve.rnds]
    by_cases h : (diff_Solve.pass l x y l.length).2.2 < 0
    · rw [if_pos h]
      refine ⟨i1, i2, fun v h0 h1 => by have := i4 v h0 h1; omega, ?_⟩
      rcases i5 with ⟨j1, j2, j3⟩ | ⟨j1, j2, j3⟩
      · exact .inl ⟨h, by rw [j2]; exact j3⟩
      · omega
    · rw [if_neg h]
      exact ih (r + 1) _ _ _ lev' (B + l.length) (by omega) i1 i2 (by have := i3.next; simpa using this) i4 (by omega) (by omega)
theorem end_inv {n : Nat} {l : List S36} (hf : Fit n l) : (diff_Solve.end_ l n).1.length = n ∧ (diff_Solve.end_ l n).2.1.length = n ∧ Bd n (diff_Solve.end_ l n).1 500000 ∧
      (((diff_Solve.end_ l n).2.2 < 0 ∧ ∀ i, i < l.length → rd (diff_Solve.end_ l n).1 (XX l i) ≤ rd (diff_Solve.end_ l n).1 (YY l i) + CC l i) ∨
       (0 ≤ (diff_Solve.end_ l n).2.2 ∧ (diff_Solve.end_ l n).2.2 < n ∧ ∃ lev', Dm.Inv l.length n (XX l) (YY l) (CC l) n l.length (rd (diff_Solve.end_ l n).1) (rd (diff_Solve.end_ l n).2.1) lev' ∧ lev' (diff_Solve.end_ l n).2.2 = n)) := by
  have hn := hf.n32
  have hr0 : ∀ (c v : Int), 0 ≤ v → v < n → rd (List.replicate n c) v = c := fun c v h0 h1 => by
    unfold rd; rw [List.getD_eq_getElem?_getD, List.getElem?_replicate, if_pos (by omega)]; rfl
  refine rnds_inv hf n 0 _ _ (-1) (fun _ => -1) 0 (by omega) (by simp) (by simp) ?_ (fun v h0 h1 => by rw [hr0 0 v h0 h1]; omega) (by omega) (by omega)
  have h := Dm.Inv.start (m := l.length) (n := n) (X := XX l) (Y := YY l) (C := CC l)
  refine ⟨fun v h0 h1 => .inl ⟨hr0 (-1) v h0 h1, rfl⟩, fun v k hk h0 h1 hv _ => ?_, fun i _ hi _ => by omega, fun i _ _ hl => by simp at hl⟩
  have := hv 0 hk
  rw [show Dm.itr (YY l) (rd (List.replicate n (-1))) 0 v = v from rfl, hr0 (-1) v h0 h1] at this
  omega
theorem min_exists {p : Nat → Prop} : ∀ n, p n → ∃ m, p m ∧ m ≤ n ∧ ∀ t, t < m → ¬ p t := by
  intro n
  induction n using Nat.strongRecOn with
  | ind n ih =>
    intro hn
    by_cases h : ∃ t, t < n ∧ p t
    · obtain ⟨t, ht, hp⟩ := h
      obtain ⟨m, h1, h2, h3⟩ := ih t ht hp
      exact ⟨m, h1, by omega, h3⟩
    · exact ⟨n, hn, Nat.le_refl _, fun t ht hp => h ⟨t, ht, hp⟩⟩
theorem cyc_step (l : List S36) (c : List Int) (k : Nat) (s s2 i a b nx : Int) (h1 : 0 ≤ i) (h2 : i < (c.length : Int)) (h3 : rd c i = a) (ha : 0 ≤ a) (ha2 : a < (l.length : Int)) (hst : Int.tmod (wrap64 (i + 1)) (c.length : Int) = nx) (hn : 0 ≤ nx) (hn2 : nx < (c.length : Int)) (h4 : rd c nx = b) (hb : 0 ≤ b) (hb2 : b < (l.length : Int)) (hm : (rd_T36 l a).f1 = (rd_T36 l b).f0) (hs : wrap64 (s + (rd_T36 l a).f2) = s2) (hw : wrap64 (i + 1) = i + 1) :
    diff_Cycle.l0 (k + 1) l c s c (c.length : Int) i = diff_Cycle.l0 k l c s2 c (c.length : Int) (i + 1) := by
  have h0 : ¬ (c.length : Int) = 0 := fun h => by rw [h] at h2; exact absurd (Int.lt_of_le_of_lt h1 h2) (Int.lt_irrefl _)
  have hna : ¬ a < 0 := Int.not_lt.mpr ha
  have hna2 : ¬ a ≥ (l.length : Int) := Int.not_le.mpr ha2
  have hnb : ¬ b < 0 := Int.not_lt.mpr hb
  have hnb2 : ¬ b ≥ (l.length : Int) := Int.not_le.mpr hb2
  rw [diff_Cycle.l0, if_pos h2, if_pos h1, if_pos h2, if_neg h0, hst, if_pos hn, if_pos hn2, h3, if_neg hna, if_neg hna2, h4, if_neg hnb, if_neg hnb2, if_pos ha, if_pos ha2, if_pos hb, if_pos hb2, if_pos hm, hs, hw]
theorem cycle_d {n : Nat} {l : List S36} (hf : Fit n l) {x y : List Int} {lev : Int → Int} (hy : y.length = n) (hI : Dm.Inv l.length n (XX l) (YY l) (CC l) n l.length (rd x) (rd y) lev) {v : Int} (h0 : 0 ≤ v) (h1 : v < n) (hl : lev v = n) :
    ∃ c : List Int, (∀ k, 200 ≤ k → diff_cycle.f k l y v = some c) ∧ (∀ k, 200 ≤ k → diff_Cycle.f k l c = some true) := by
  have hn := hf.n32
  obtain ⟨hval, L0, hL0, hL0n, hcy⟩ := hI.cycle hf.sys h0 h1 hl
  have hlm := hI.lt_m
  have hrng : ∀ t, 0 ≤ Dm.itr (YY l) (rd y) t v ∧ Dm.itr (YY l) (rd y) t v < n := fun t => Dm.itr_range hf.sys h0 h1 hlm t (fun s _ => hval s)
  obtain ⟨u, hu⟩ : ∃ u, u = Dm.itr (YY l) (rd y) n v := ⟨_, rfl⟩
  rw [← hu] at hcy
  obtain ⟨L, ⟨hLpos, hLc⟩, hLL, hmin⟩ := min_exists (p := fun L => 0 < L ∧ Dm.itr (YY l) (rd y) L u = u) L0 ⟨hL0, hcy⟩
  have hru : ∀ t, 0 ≤ Dm.itr (YY l) (rd y) t u ∧ Dm.itr (YY l) (rd y) t u < n := fun t => by rw [hu, ← Dm.itr_add]; exact hrng _
  have hvu : ∀ t, 0 ≤ rd y (Dm.itr (YY l) (rd y) t u) := fun t => by rw [hu, ← Dm.itr_add]; exact hval _
  have hat : ∀ t, ∃ i : Nat, i < l.length ∧ rd y (Dm.itr (YY l) (rd y) t u) = (i : Int) ∧ XX l i = Dm.itr (YY l) (rd y) t u ∧ YY l i = Dm.itr (YY l) (rd y) (t + 1) u := fun t => by
    obtain ⟨i, h2, h3, h4, _⟩ := hI.at_ (hru t).1 (hru t).2 (hvu t)
    exact ⟨i, h2, h3, h4, by show _ = YY l (rd y (Dm.itr (YY l) (rd y) t u)).toNat; rw [h3, Int.toNat_natCast]⟩
  -- the walk to the cycle
  have walk : ∀ (k d t : Nat), t + d = n → diff_cycle.l0 (k + 1 + d) l y (Dm.itr (YY l) (rd y) t v) (n : Int) (t : Int) = diff_cycle.l1 k l y u [] u := by
    intro k d
    induction d with
    | zero =>
      intro t ht
      obtain rfl : t = n := by omega
      rw [show k + 1 + 0 = k + 1 from rfl, diff_cycle.l0, if_neg (by omega), hu]
    | succ d ih =>
      intro t ht
      have hr := hrng t
      obtain ⟨i, h2, h3, _⟩ := hI.at_ hr.1 hr.2 (hval t)
      have h5 : Dm.itr (YY l) (rd y) (t + 1) v = (rd_T36 l (i : Int)).f1 := by show YY l (rd y (Dm.itr (YY l) (rd y) t v)).toNat = _; rw [h3, Int.toNat_natCast]; rfl
      have hih := ih (t + 1) (by omega)
      rw [h5, show ((t + 1 : Nat) : Int) = (t : Int) + 1 from by omega] at hih
      rw [show k + 1 + (d + 1) = (k + 1 + d) + 1 from by omega, diff_cycle.l0, if_pos (by omega), if_pos hr.1, if_pos (by omega), h3, if_pos (by omega), if_pos (by omega), w1 (by omega) (by omega)]
      exact hih
  -- the collection of the cycle
  have coll : ∀ (k d t : Nat), t + d + 1 = L → diff_cycle.l1 (k + 1 + d) l y u ((List.range t).map fun s => rd y (Dm.itr (YY l) (rd y) s u)) (Dm.itr (YY l) (rd y) t u) = some ((List.range L).map fun s => rd y (Dm.itr (YY l) (rd y) s u)) := by
    intro k d
    induction d with
    | zero =>
      intro t ht
      obtain ⟨i, h2, h3, h4, h5⟩ := hat t
      have hr := hru t
      have h6 : (rd_T36 l (i : Int)).f1 = u := by
        have : YY l i = u := by rw [h5, show t + 1 = L from by omega]; exact hLc
        exact this
      rw [show k + 1 + 0 = k + 1 from rfl, diff_cycle.l1, if_pos hr.1, if_pos (by omega), if_pos (by simp; omega)]
      simp only [Option.bind_some]
      rw [h3, if_pos (by omega), if_pos (by omega), if_pos h6, ← h3, show L = t + 1 from by omega, List.range_succ, List.map_append]
      rfl
    | succ d ih =>
      intro t ht
      obtain ⟨i, h2, h3, h4, h5⟩ := hat t
      have hr := hru t
      have h6 : ¬ (rd_T36 l (i : Int)).f1 = u := by
        intro h
        have h7 : YY l i = u := h
        rw [h5] at h7
        exact hmin (t + 1) (by omega) ⟨by omega, h7⟩
      have h8 : (rd_T36 l (i : Int)).f1 = Dm.itr (YY l) (rd y) (t + 1) u := h5
      have hih := ih (t + 1) (by omega)
      rw [List.range_succ, List.map_append] at hih
      rw [show k + 1 + (d + 1) = (k + 1 + d) + 1 from by omega, diff_cycle.l1, if_pos hr.1, if_pos (by omega), if_pos (by simp; omega)]
      simp only [Option.bind_some]
      rw [h3, if_pos (by omega), if_pos (by omega), if_neg h6, h8, ← h3]
      exact hih
  have hLn : L ≤ 32 := by omega
  obtain ⟨c, hc⟩ : ∃ c, c = (List.range L).map fun s => rd y (Dm.itr (YY l) (rd y) s u) := ⟨_, rfl⟩
  have hcl : c.length = L := by rw [hc]; simp
  have hcr : ∀ s : Nat, s < L → rd c (s : Int) = rd y (Dm.itr (YY l) (rd y) s u) := fun s hs => by
    rw [hc]; unfold rd
    rw [Int.toNat_natCast, List.getD_eq_getElem?_getD, List.getElem?_map, List.getElem?_range hs]; rfl
  have hneg : Dm.sumC (YY l) (CC l) (rd y) L u < 0 := hI.c u L hLpos (hru 0).1 (hru 0).2 (fun t _ => hvu t) hLc
  have hsb : ∀ t : Nat, -(1048577 * (t : Int)) ≤ Dm.sumC (YY l) (CC l) (rd y) t u ∧ Dm.sumC (YY l) (CC l) (rd y) t u ≤ 1048577 * (t : Int) := by
    intro t
    induction t with
    | zero => exact ⟨by simp [Dm.sumC], by simp [Dm.sumC]⟩
    | succ t ih =>
      obtain ⟨i, h2, h3, _⟩ := hat t
      have hb := hf.bound i h2
      have e : Dm.sumC (YY l) (CC l) (rd y) (t + 1) u = Dm.sumC (YY l) (CC l) (rd y) t u + CC l i := by
        show _ + CC l (rd y (Dm.itr (YY l) (rd y) t u)).toNat = _
        rw [h3, Int.toNat_natCast]
      rw [e]; omega
  refine ⟨c, fun k hk => ?_, fun k hk => ?_⟩
  · unfold diff_cycle.f
    rw [hy]
    obtain ⟨k1, rfl⟩ : ∃ m, k = (m + 1 + (L - 1)) + 1 + n := ⟨k - n - L - 1, by omega⟩
    rw [show ((0 : Int)) = ((0 : Nat) : Int) from rfl]
    have h := walk (k1 + 1 + (L - 1)) n 0 (by omega)
    rw [show Dm.itr (YY l) (rd y) 0 v = v from rfl] at h
    rw [h]
    have h2 := coll k1 (L - 1) 0 (by omega)
    rw [hc]
    exact h2
  · unfold diff_Cycle.f
    rw [hcl]
    have key : ∀ (d k i : Nat), i + d = L → d < k → diff_Cycle.l0 k l c (Dm.sumC (YY l) (CC l) (rd y) i u) c (L : Int) (i : Int) = some true := by
      intro d
      induction d with
      | zero =>
        intro k i hi hk
        obtain rfl : i = L := by omega
        obtain ⟨k, rfl⟩ : ∃ m, k = m + 1 := ⟨k - 1, by omega⟩
        rw [diff_Cycle.l0, if_neg (by omega), decide_eq_true hneg]
      | succ d ih =>
        intro k i hi hk
        obtain ⟨k, rfl⟩ : ∃ m, k = m + 1 := ⟨k - 1, by omega⟩
        obtain ⟨a, a2, a3, a4, a5⟩ := hat i
        obtain ⟨b, b2, b3, b4, b5⟩ := hat (i + 1)
        have hnx : ∃ s : Nat, s < L ∧ Int.tmod (wrap64 ((i : Int) + 1)) (c.length : Int) = (s : Int) ∧ rd c (s : Int) = (b : Int) := by
          rw [hcl, w1 (by omega) (by omega), Int.tmod_eq_emod_of_nonneg (by omega)]
          by_cases hlt : i + 1 < L
          · exact ⟨i + 1, hlt, by rw [Int.emod_eq_of_lt (by omega) (by omega)]; omega, by rw [hcr _ hlt]; exact b3⟩
          · refine ⟨0, by omega, by rw [show (i : Int) + 1 = (L : Int) from by omega, Int.emod_self]; rfl, ?_⟩
            rw [hcr _ (by omega)]
            rw [show i + 1 = L from by omega, hLc] at b3
            exact b3
        obtain ⟨s, hs, hst, hsr⟩ := hnx
        have hci := hcr i (by omega)
        rw [a3] at hci
        have hsum : wrap64 (Dm.sumC (YY l) (CC l) (rd y) i u + (rd_T36 l (a : Int)).f2) = Dm.sumC (YY l) (CC l) (rd y) (i + 1) u := by
          have e : Dm.sumC (YY l) (CC l) (rd y) (i + 1) u = Dm.sumC (YY l) (CC l) (rd y) i u + (rd_T36 l (a : Int)).f2 := by
            show _ + CC l (rd y (Dm.itr (YY l) (rd y) i u)).toNat = _
            rw [a3, Int.toNat_natCast]; rfl
          rw [← e]
          have := hsb (i + 1)
          exact wrap_self (by omega)
        have hmeet : (rd_T36 l (a : Int)).f1 = (rd_T36 l (b : Int)).f0 := by
          have h1 : YY l a = XX l b := by rw [a5, b4]
          exact h1
        have hil : (i : Int) < (c.length : Int) := by rw [hcl]; exact Int.ofNat_lt.mpr (by omega)
        have hsl : (s : Int) < (c.length : Int) := by rw [hcl]; exact Int.ofNat_lt.mpr hs
        have hw1 : wrap64 ((i : Int) + 1) = (i : Int) + 1 := w1 (by omega) (by omega)
        have hih := ih k (i + 1) (by omega) (by omega)
        rw [show ((i + 1 : Nat) : Int) = (i : Int) + 1 from by omega] at hih
        have hst2 := cyc_step l c k (Dm.sumC (YY l) (CC l) (rd y) i u) (Dm.sumC (YY l) (CC l) (rd y) (i + 1) u) (i : Int) (a : Int) (b : Int) (s : Int) (Int.natCast_nonneg i) hil hci (Int.natCast_nonneg a) (Int.ofNat_lt.mpr a2) hst (Int.natCast_nonneg s) hsl hsr (Int.natCast_nonneg b) (Int.ofNat_lt.mpr b2) hmeet hsum hw1
        rw [hcl] at hst2
        rw [hst2]
        exact hih
    exact key L k 0 (by omega) (by omega)
/-- What Solve gives at a system that fits: the greatest solution, or a cycle that Cycle takes for one. -/
theorem solve_d {n : Nat} {l : List S36} (hf : Fit n l) :
    ((diff_Solve.end_ l n).2.2 < 0 ∧ ∀ k, diff_Solve.f k (n : Int) l = some ((diff_Solve.end_ l n).1, [], true)) ∨
    (0 ≤ (diff_Solve.end_ l n).2.2 ∧ ∃ c, (∀ k, 200 ≤ k → diff_Solve.f k (n : Int) l = some ([], c, false)) ∧ ∀ k, 200 ≤ k → diff_Cycle.f k l c = some true) := by
  have hn := hf.n32
  have h1 : ¬ ((n : Int) < 0 ∨ 32 < (n : Int)) := by omega
  have h2 : diff_Solve.okB (n : Int) l = true := diff_Solve.okB_iff.mpr fun i hi => ⟨(hf.sys.hx i hi).1, (hf.sys.hy i hi).1, (hf.sys.hx i hi).2, (hf.sys.hy i hi).2⟩
  have h3 : diff_Solve.neB l = true := diff_Solve.neB_iff.mpr fun i hi => hf.sys.hne i hi
  have e : ∀ k, diff_Solve.f k (n : Int) l = if (diff_Solve.end_ l n).2.2 < 0 then some ((diff_Solve.end_ l n).1, [], true) else (diff_cycle.f k l (diff_Solve.end_ l n).2.1 (diff_Solve.end_ l n).2.2).bind fun c => some ([], c, false) := fun k => by
    unfold diff_Solve.f
    rw [if_neg h1, if_pos h2, if_pos h3, Int.toNat_natCast]
  obtain ⟨i1, i2, i3, i4⟩ := end_inv hf
  rcases i4 with ⟨j1, j2⟩ | ⟨j1, j2, lev, j3, j4⟩
  · exact .inl ⟨j1, fun k => by rw [e, if_pos j1]⟩
  · obtain ⟨c, hc1, hc2⟩ := cycle_d hf i2 j3 j1 j2 j4
    exact .inr ⟨j1, c, fun k hk => by rw [e, if_neg (by omega), hc1 k hk]; rfl, hc2⟩
theorem rd36_get (l : List S36) (i : Nat) (hi : i < l.length) : rd_T36 l (i : Int) = l[i] := by
  unfold rd_T36; rw [Int.toNat_natCast, List.getD_eq_getElem?_getD, List.getElem?_eq_getElem hi]; rfl
theorem hold_l0 (l : List S36) (x : List Int) (hl : l.length ≤ 35184372088832) : ∀ (d k i : Nat), i + d = l.length → d < k →
    interleaveref31_HoldAll.l0 k x l (l.length : Int) (i : Int) = some (!((l.drop i).any (diff_Holds.bad x))) := by
  intro d
  induction d with
  | zero =>
    intro k i hi hk
    obtain ⟨k, rfl⟩ : ∃ m, k = m + 1 := ⟨k - 1, by omega⟩
    rw [interleaveref31_HoldAll.l0, if_neg (by omega), List.drop_of_length_le (by omega)]; rfl
  | succ d ih =>
    intro k i hi hk
    obtain ⟨k, rfl⟩ : ∃ m, k = m + 1 := ⟨k - 1, by omega⟩
    have hlt : i < l.length := by omega
    have hih := ih k (i + 1) (by omega) (by omega)
    rw [show ((i + 1 : Nat) : Int) = (i : Int) + 1 from by omega] at hih
    rw [interleaveref31_HoldAll.l0, if_pos (by omega), if_pos (by omega), if_pos (by omega), w1 (by omega) (by omega), hih, List.drop_eq_getElem_cons hlt, List.any_cons, ← rd36_get l i hlt]
    obtain ⟨d, hd⟩ : ∃ d, d = rd_T36 l (i : Int) := ⟨_, rfl⟩
    rw [← hd]
    unfold diff_Holds.bad
    by_cases c1 : d.f0 < 0
    · rw [if_pos c1, if_pos c1]; rfl
    rw [if_neg c1, if_neg c1]
    by_cases c3 : (x.length : Int) ≤ d.f0
    · rw [if_pos c3, if_pos c3]
      split <;> rfl
    rw [if_neg c3, if_neg c3]
    by_cases c2 : d.f1 < 0
    · rw [if_pos c2, if_pos c2]; rfl
    rw [if_neg c2, if_neg c2]
    by_cases c4 : (x.length : Int) ≤ d.f1
    · rw [if_pos c4, if_pos c4]; rfl
    rw [if_neg c4, if_neg c4, if_pos (by omega), if_pos (by omega), if_pos (by omega), if_pos (by omega)]
    by_cases c5 : wrap64 (rd x d.f0 - rd x d.f1) > d.f2
    · rw [if_pos c5, decide_eq_true c5]; rfl
    · rw [if_neg c5, decide_eq_false c5, Bool.false_or]
theorem hold_f (l : List S36) (x : List Int) (hl : l.length ≤ 35184372088832) (k : Nat) (hk : l.length < k) : interleaveref31_HoldAll.f k l x = diff_Holds.f l x := by
  unfold interleaveref31_HoldAll.f diff_Holds.f
  have h := hold_l0 l x hl l.length k 0 (by omega) hk
  rw [List.drop_zero] at h
  exact h
theorem fit_of {n : Nat} {l : List S36} (hn : 2 ≤ n ∧ n ≤ 6) (hl : l.length ≤ 52) (h : ∀ d ∈ l, interleavelaw32_system.okL n d) : Fit n l := by
  have key : ∀ i : Nat, i < l.length → interleavelaw32_system.okL n (rd_T36 l (i : Int)) := fun i hi => by
    rw [rd36_get l i hi]; exact h _ (List.getElem_mem hi)
  exact ⟨by omega, by omega, ⟨fun i hi => (key i hi).1, fun i hi => (key i hi).2.1, fun i hi => (key i hi).2.2.1⟩, fun i hi => by
    have := (key i hi).2.2.2
    show -1048577 ≤ (rd_T36 l (i : Int)).f2 ∧ (rd_T36 l (i : Int)).f2 ≤ 1048577
    omega⟩
/-- Values that satisfy every constraint: Holds. -/
theorem holds_of {n : Nat} {l : List S36} (hf : Fit n l) {x : List Int} (hx : x.length = n) (hb : ∀ v : Int, 0 ≤ v → v < n → -4611686018427387904 ≤ rd x v ∧ rd x v ≤ 4611686018427387903)
    (hc : ∀ i, i < l.length → rd x (XX l i) ≤ rd x (YY l i) + CC l i) : diff_Holds.f l x = some true := by
  unfold diff_Holds.f
  rw [show l.any (diff_Holds.bad x) = false from ?_]
  · rfl
  · rw [List.any_eq_false]
    intro d hd
    obtain ⟨i, hi, rfl⟩ := List.getElem_of_mem hd
    rw [← rd36_get l i hi]
    have h1 := hf.sys.hx i hi
    have h2 := hf.sys.hy i hi
    have h3 := hc i hi
    have b1 := hb _ h1.1 h1.2
    have b2 := hb _ h2.1 h2.2
    have e0 : (rd_T36 l (i : Int)).f0 = XX l i := rfl
    have e1 : (rd_T36 l (i : Int)).f1 = YY l i := rfl
    have e2 : (rd_T36 l (i : Int)).f2 = CC l i := rfl
    unfold diff_Holds.bad
    rw [e0, e1, e2, if_neg (by omega), if_neg (by omega), if_neg (by omega), if_neg (by omega), wrap_self (by omega), decide_eq_false (by omega)]
    exact Bool.false_ne_true
theorem rd_map (f : Int → Int) (x : List Int) (v : Int) (h0 : 0 ≤ v) (h1 : v < (x.length : Int)) : rd (x.map f) v = f (rd x v) := by
  unfold rd
  have h : v.toNat < x.length := by omega
  rw [List.getD_eq_getElem?_getD, List.getD_eq_getElem?_getD, List.getElem?_map, List.getElem?_eq_getElem h]
  rfl
theorem sat_of {n : Nat} {l : List S36} (hf : Fit n l) (h : (diff_Solve.end_ l n).2.2 < 0) : ∀ i, i < l.length → rd (diff_Solve.end_ l n).1 (XX l i) ≤ rd (diff_Solve.end_ l n).1 (YY l i) + CC l i := by
  rcases (end_inv hf).2.2.2 with ⟨_, j2⟩ | ⟨j1, _⟩
  · exact j2
  · omega
/-- Where Solve answers a cycle, no values satisfy all constraints. -/
theorem no_sat {n : Nat} {l : List S36} (hf : Fit n l) (h : ¬ (diff_Solve.end_ l n).2.2 < 0) (z : Int → Int) (hz : ∀ i, i < l.length → z (XX l i) ≤ z (YY l i) + CC l i) : False := by
  rcases (end_inv hf).2.2.2 with ⟨j1, _⟩ | ⟨j1, j2, lev, j3, j4⟩
  · exact h j1
  · exact j3.no hf.sys j1 j2 j4 z hz
/-- What the rounds leave is never below values that satisfy all constraints. -/
theorem pass_ge {n : Nat} {l : List S36} (hf : Fit n l) {x y : List Int} {r : Nat} {lev : Int → Int} {B : Int} (hx : x.length = n) (hy : y.length = n) (hI : Dm.Inv l.length n (XX l) (YY l) (CC l) r 0 (rd x) (rd y) lev) (hb : Bd n x B) (hB : 0 ≤ B ∧ B ≤ 500000)
    (z : Int → Int) (hz : ∀ i, i < l.length → z (XX l i) ≤ z (YY l i) + CC l i) (h0 : ∀ v : Int, 0 ≤ v → v < n → z v ≤ rd x v) : ∀ j, j ≤ l.length → ∀ v : Int, 0 ≤ v → v < n → z v ≤ rd (diff_Solve.pass l x y j).1 v := by
  intro j
  induction j with
  | zero => exact fun _ => h0
  | succ j ih =>
    intro hj v hv0 hv1
    obtain ⟨lev', i1, i2, i3, i4, i5⟩ := pass_inv hf hx hy hI hb hB j (by omega)
    have hih := ih (by omega)
    have hlen := hf.len
    have hsum := sum_eq hf i4 (by omega) (by omega : j < l.length)
    have hX := hf.sys.hx j (by omega)
    have hY := hf.sys.hy j (by omega)
    show z v ≤ rd (diff_Solve.low l (j : Int) (diff_Solve.pass l x y j)).1 v
    obtain ⟨s, hs⟩ : ∃ s, s = diff_Solve.pass l x y j := ⟨_, rfl⟩
    rw [← hs] at i1 hih hsum ⊢
    by_cases hlow : diff_Solve.lowers l s.1 (j : Int) = true
    · have e : diff_Solve.low l (j : Int) s = (s.1.set (XX l j).toNat (rd s.1 (YY l j) + CC l j), s.2.1.set (XX l j).toNat (j : Int), XX l j) := by
        unfold diff_Solve.low; rw [if_pos hlow, hsum]; rfl
      rw [e]
      show z v ≤ rd (s.1.set (XX l j).toNat (rd s.1 (YY l j) + CC l j)) v
      rw [rd_set s.1 (XX l j) v _ hX.1 (by omega) hv0]
      by_cases he : v = XX l j
      · subst he
        rw [if_pos rfl]
        have h1 := hz j (by omega)
        have h2 := hih _ hY.1 hY.2
        omega
      · rw [if_neg he]; exact hih v hv0 hv1
    · have e : diff_Solve.low l (j : Int) s = s := by unfold diff_Solve.low; rw [if_neg hlow]
      rw [e]; exact hih v hv0 hv1
theorem rnds_ge {n : Nat} {l : List S36} (hf : Fit n l) (z : Int → Int) (hz : ∀ i, i < l.length → z (XX l i) ≤ z (YY l i) + CC l i) : ∀ (M r : Nat) (x y : List Int) (last : Int) (lev : Int → Int) (B : Int), r + M = n → x.length = n → y.length = n → Dm.Inv l.length n (XX l) (YY l) (CC l) r 0 (rd x) (rd y) lev → Bd n x B → 0 ≤ B → B + (M + 1) * 1024 ≤ 500000 →
    (∀ v : Int, 0 ≤ v → v < n → z v ≤ rd x v) → ∀ v : Int, 0 ≤ v → v < n → z v ≤ rd (diff_Solve.rnds l (M + 1) x y last).1 v := by
  intro M
  induction M with
  | zero =>
    intro r x y last lev B hr hx hy hI hb hB0 hB h0
    have e : diff_Solve.rnds l (0 + 1) x y last = diff_Solve.pass l x y l.length := by
      rw [diff_Solve.rnds]
      by_cases h : (diff_Solve.pass l x y l.length).2.2 < 0
      · rw [if_pos h]
      · rw [if_neg h, diff_Solve.rnds]
    rw [e]
    exact pass_ge hf hx hy hI hb ⟨hB0, by omega⟩ z hz h0 l.length (Nat.le_refl _)
  | succ M ih =>
    intro r x y last lev B hr hx hy hI hb hB0 hB h0
    have hlen := hf.len
    obtain ⟨lev', i1, i2, i3, i4, i5⟩ := pass_inv hf hx hy hI hb ⟨hB0, by omega⟩ l.length (Nat.le_refl _)
    have hp := pass_ge hf hx hy hI hb ⟨hB0, by omega⟩ z hz h0 l.length (Nat.le_refl _)
    rw [diff_Solve.rnds]
    by_cases h : (diff_Solve.pass l x y l.length).2.2 < 0
    · rw [if_pos h]; exact hp
    · rw [if_neg h]
      exact ih (r + 1) _ _ _ lev' (B + l.length) (by omega) i1 i2 (by have := i3.next; simpa using this) i4 (by omega) (by omega) hp
theorem end_ge {n : Nat} {l : List S36} (hf : Fit n l) (z : Int → Int) (hz : ∀ i, i < l.length → z (XX l i) ≤ z (YY l i) + CC l i) (h0 : ∀ v : Int, 0 ≤ v → v < n → z v ≤ 0) : ∀ v : Int, 0 ≤ v → v < n → z v ≤ rd (diff_Solve.end_ l n).1 v := by
  have hn := hf.n32
  have hr0 : ∀ (c v : Int), 0 ≤ v → v < n → rd (List.replicate n c) v = c := fun c v h0 h1 => by
    unfold rd; rw [List.getD_eq_getElem?_getD, List.getElem?_replicate, if_pos (by omega)]; rfl
  refine rnds_ge hf z hz n 0 _ _ (-1) (fun _ => -1) 0 (by omega) (by simp) (by simp) ?_ (fun v h0 h1 => by rw [hr0 0 v h0 h1]; omega) (by omega) (by omega) (fun v a b => by rw [hr0 0 v a b]; exact h0 v a b)
  have h := Dm.Inv.start (m := l.length) (n := n) (X := XX l) (Y := YY l) (C := CC l)
  refine ⟨fun v h0 h1 => .inl ⟨hr0 (-1) v h0 h1, rfl⟩, fun v k hk h0 h1 hv _ => ?_, fun i _ hi _ => by omega, fun i _ _ hl => by simp at hl⟩
  have := hv 0 hk
  rw [show Dm.itr (YY l) (rd (List.replicate n (-1))) 0 v = v from rfl, hr0 (-1) v h0 h1] at this
  omega
/-- Values for which HoldAll answers true satisfy every constraint. -/
theorem sat_holds {n : Nat} {l : List S36} (hf : Fit n l) {y : List Int} (hy : y.length = n) (hb : ∀ v : Int, 0 ≤ v → v < n → -2199023255552 ≤ rd y v ∧ rd y v ≤ 0) (h : diff_Holds.f l y = some true) : ∀ i, i < l.length → rd y (XX l i) ≤ rd y (YY l i) + CC l i := by
  intro i hi
  unfold diff_Holds.f at h
  have h2 : l.any (diff_Holds.bad y) = false := by simpa using h
  rw [List.any_eq_false] at h2
  have h3 := h2 (l[i]) (List.getElem_mem hi)
  rw [← rd36_get l i hi] at h3
  have hX := hf.sys.hx i hi
  have hY := hf.sys.hy i hi
  have b1 := hb _ hX.1 hX.2
  have b2 := hb _ hY.1 hY.2
  have e0 : (rd_T36 l (i : Int)).f0 = XX l i := rfl
  have e1 : (rd_T36 l (i : Int)).f1 = YY l i := rfl
  have e2 : (rd_T36 l (i : Int)).f2 = CC l i := rfl
  unfold diff_Holds.bad at h3
  rw [e0, e1, e2, if_neg (by omega), if_neg (by omega), if_neg (by omega), if_neg (by omega), wrap_self (by omega)] at h3
  have h4 : ¬ (CC l i < rd y (XX l i) - rd y (YY l i)) := fun g => h3 (decide_eq_true g)
  omega
theorem DiffGreatest (o : List Int) (_ : ∀ v ∈ o, -128 ≤ v ∧ v ≤ 127) : ∀ (n : Nat) (l : List S36), 2 ≤ n ∧ n ≤ 6 → l.length ≤ 52 → (∀ d ∈ l, interleavelaw32_system.okL n d) → ∃ (k : Nat) (x cy : List Int) (ok : Bool), diff_Solve.f k (n : Int) l = some (x, cy, ok) ∧ interleavelaw32_awake.f k = some true ∧ (ok = false → x = [] ∧ diff_Cycle.f k l cy = some true) ∧
      (ok = true → x.length = n ∧ diff_Holds.f l x = some true ∧ (∀ v : Int, 0 ≤ v → v < n → -1099511627776 ≤ rd x v ∧ rd x v ≤ 0) ∧
        ∀ y : List Int, y.length = n → (∀ v : Int, 0 ≤ v → v < n → -2199023255552 ≤ rd y v ∧ rd y v ≤ 0) → ∃ b, interleaveref31_HoldAll.f k l y = some b ∧ (b = true → ∀ v : Int, 0 ≤ v → v < n → rd y v ≤ rd x v)) := by
  intro n l hn hl hL
  obtain ⟨Ka, hA⟩ := awake_ev
  have hf := fit_of hn hl hL
  obtain ⟨i1, i2, i3, i4⟩ := end_inv hf
  rcases solve_d hf with ⟨h1, h2⟩ | ⟨h1, c, h2, h3⟩
  · refine ⟨Ka + 200, _, _, _, h2 _, hA _ (by omega), (fun h => by cases h), fun _ => ⟨i1, ?_, fun v h0 h1 => by have := i3 v h0 h1; omega, fun y hy hb => ?_⟩⟩
    · exact holds_of hf i1 (fun v h0 h1 => by have := i3 v h0 h1; omega) (sat_of hf h1)
    · rw [hold_f l y (by omega) _ (by omega)]
      refine ⟨_, rfl, fun hb2 v h0 h1 => ?_⟩
      exact end_ge hf (rd y) (sat_holds hf hy hb (by unfold diff_Holds.f; rw [hb2])) (fun v h0 h1 => (hb v h0 h1).2) v h0 h1
  · exact ⟨Ka + 200, _, _, _, h2 _ (by omega), hA _ (by omega), fun _ => ⟨rfl, h3 _ (by omega)⟩, fun h => by cases h⟩

end Go.Proofs.Ytolfnlamknmeaaa.Pure
