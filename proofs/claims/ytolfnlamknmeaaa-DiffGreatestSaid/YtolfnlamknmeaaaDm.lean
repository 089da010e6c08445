/- Difference constraints: rounds that lower variables, and the negative cycle behind the last variable lowered. Plain mathematics. -/
namespace Go.Proofs.Ytolfnlamknmeaaa.Dm
set_option linter.unusedVariables false
section
variable {m n : Nat} {X Y C : Nat → Int}
/-- One step along the constraints that lowered variables last. -/
def nx (Y : Nat → Int) (b : Int → Int) (v : Int) : Int := Y (b v).toNat
def itr (Y : Nat → Int) (b : Int → Int) : Nat → Int → Int
  | 0, v => v
  | k + 1, v => nx Y b (itr Y b k v)
def sumC (Y C : Nat → Int) (b : Int → Int) : Nat → Int → Int
  | 0, _ => 0
  | k + 1, v => sumC Y C b k v + C (b (itr Y b k v)).toNat
def Valid (Y : Nat → Int) (b : Int → Int) (k : Nat) (v : Int) : Prop := ∀ t, t < k → 0 ≤ b (itr Y b t v)
structure Sys (m n : Nat) (X Y C : Nat → Int) : Prop where
  hx : ∀ i, i < m → 0 ≤ X i ∧ X i < n
  hy : ∀ i, i < m → 0 ≤ Y i ∧ Y i < n
  hne : ∀ i, i < m → X i ≠ Y i
structure Inv (m n : Nat) (X Y C : Nat → Int) (r : Int) (j : Nat) (x b lev : Int → Int) : Prop where
  a : ∀ v : Int, 0 ≤ v → v < n → (b v = -1 ∧ lev v = -1) ∨ ∃ i : Nat, i < m ∧ b v = (i : Int) ∧ X i = v ∧ x (Y i) + C i ≤ x v ∧ lev v - 1 ≤ lev (Y i) ∧ 0 ≤ lev v ∧ lev v ≤ r
  c : ∀ (v : Int) (k : Nat), 0 < k → 0 ≤ v → v < n → Valid Y b k v → itr Y b k v = v → sumC Y C b k v < 0
  d1 : ∀ i, i < m → i < j → lev (Y i) < r → x (X i) ≤ x (Y i) + C i
  d2 : ∀ i, i < m → j ≤ i → lev (Y i) < r - 1 → x (X i) ≤ x (Y i) + C i
theorem Inv.at_ {r : Int} {j : Nat} {x b lev : Int → Int} (h : Inv m n X Y C r j x b lev) {v : Int} (h0 : 0 ≤ v) (h1 : v < n) (hb : 0 ≤ b v) : ∃ i : Nat, i < m ∧ b v = (i : Int) ∧ X i = v ∧ x (Y i) + C i ≤ x v ∧ lev v - 1 ≤ lev (Y i) ∧ 0 ≤ lev v ∧ lev v ≤ r := by
  rcases h.a v h0 h1 with ⟨h2, _⟩ | h2
  · omega
  · exact h2
theorem Inv.start : Inv m n X Y C 0 0 (fun _ => 0) (fun _ => -1) (fun _ => -1) where
  a := fun v _ _ => .inl ⟨rfl, rfl⟩
  c := fun v k hk _ _ hv _ => by have := hv 0 hk; simp at this
  d1 := fun i _ hj _ => by omega
  d2 := fun i _ _ h => by simp at h
theorem Inv.next {r : Int} {x b lev : Int → Int} (h : Inv m n X Y C r m x b lev) : Inv m n X Y C (r + 1) 0 x b lev where
  a := fun v h0 h1 => by
    rcases h.a v h0 h1 with h2 | ⟨i, h2, h3, h4, h5, h6, h7, h8⟩
    · exact .inl h2
    · exact .inr ⟨i, h2, h3, h4, h5, h6, h7, by omega⟩
  c := h.c
  d1 := fun i _ hj _ => by omega
  d2 := fun i hi _ hl => h.d1 i hi hi (by omega)
theorem Inv.skip {r : Int} {j : Nat} {x b lev : Int → Int} (h : Inv m n X Y C r j x b lev) (hno : x (X j) ≤ x (Y j) + C j) : Inv m n X Y C r (j + 1) x b lev where
  a := h.a
  c := h.c
  d1 := fun i hi hij hl => by
    by_cases e : i = j
    · subst e; exact hno
    · exact h.d1 i hi (by omega) hl
  d2 := fun i hi hij hl => h.d2 i hi (by omega) hl
/-- What equal functions in range give. -/
theorem itr_range (hs : Sys m n X Y C) {b : Int → Int} {v : Int} (h0 : 0 ≤ v) (h1 : v < n) (hbm : ∀ u : Int, 0 ≤ u → u < n → b u < m) : ∀ k, Valid Y b k v → 0 ≤ itr Y b k v ∧ itr Y b k v < n
  | 0, _ => ⟨h0, h1⟩
  | k + 1, hv => by
    have ih := itr_range hs h0 h1 hbm k (fun t ht => hv t (by omega))
    have hb := hv k (by omega)
    have := hbm _ ih.1 ih.2
    exact hs.hy _ (by omega)
theorem Inv.lt_m {r : Int} {j : Nat} {x b lev : Int → Int} (h : Inv m n X Y C r j x b lev) : ∀ u : Int, 0 ≤ u → u < n → b u < m := fun u h0 h1 => by
  rcases h.a u h0 h1 with ⟨h2, _⟩ | ⟨i, h2, h3, _⟩
  · omega
  · omega
theorem Inv.relax (hs : Sys m n X Y C) {r : Int} {j : Nat} {x b lev x' b' lev' : Int → Int} (h : Inv m n X Y C r j x b lev) (hr : 0 ≤ r) (hj : j < m) (hlow : x (Y j) + C j < x (X j))
    (hx' : ∀ v : Int, 0 ≤ v → v < n → x' v = if v = X j then x (Y j) + C j else x v) (hb' : ∀ v : Int, 0 ≤ v → v < n → b' v = if v = X j then (j : Int) else b v) (hl' : ∀ v : Int, 0 ≤ v → v < n → lev' v = if v = X j then r else lev v) :
    Inv m n X Y C r (j + 1) x' b' lev' := by
  have hX := hs.hx j hj
  have hY := hs.hy j hj
  have hn := hs.hne j hj
  have hlevle : ∀ v : Int, 0 ≤ v → v < n → lev v ≤ r := fun v h0 h1 => by
    rcases h.a v h0 h1 with ⟨_, h2⟩ | ⟨_, _, _, _, _, _, _, h2⟩ <;> omega
  have hlev' : ∀ v : Int, 0 ≤ v → v < n → lev v ≤ lev' v := fun v h0 h1 => by
    rw [hl' v h0 h1]
    split
    · exact hlevle v h0 h1
    · exact Int.le_refl _
  have hxle : ∀ v : Int, 0 ≤ v → v < n → x' v ≤ x v := fun v h0 h1 => by
    rw [hx' v h0 h1]
    split
    · rename_i e; rw [e]; omega
    · exact Int.le_refl _
  have hlm := h.lt_m
  have hlm' : ∀ u : Int, 0 ≤ u → u < n → b' u < m := fun u h0 h1 => by
    rw [hb' u h0 h1]
    split
    · omega
    · exact hlm u h0 h1
  refine ⟨fun v h0 h1 => ?_, fun v k hk h0 h1 hv hc => ?_, fun i hi hij hl => ?_, fun i hi hij hl => ?_⟩
  · by_cases e : v = X j
    · refine .inr ⟨j, hj, by rw [hb' v h0 h1, if_pos e], e.symm, ?_, ?_, by rw [hl' v h0 h1, if_pos e]; exact hr, by rw [hl' v h0 h1, if_pos e]; exact Int.le_refl _⟩
      · rw [hx' v h0 h1, if_pos e, hx' (Y j) hY.1 hY.2, if_neg (fun e2 => hn e2.symm)]; exact Int.le_refl _
      · rw [hl' v h0 h1, if_pos e]
        have := hlev' (Y j) hY.1 hY.2
        by_cases h3 : lev (Y j) < r - 1
        · have := h.d2 j hj (Nat.le_refl _) h3; omega
        · omega
    · rcases h.a v h0 h1 with ⟨h2, h3⟩ | ⟨i, h2, h3, h4, h5, h6, h7, h8⟩
      · exact .inl ⟨by rw [hb' v h0 h1, if_neg e]; exact h2, by rw [hl' v h0 h1, if_neg e]; exact h3⟩
      · have hyi := hs.hy i h2
        have e1 := hxle (Y i) hyi.1 hyi.2
        have e2 := hlev' (Y i) hyi.1 hyi.2
        refine .inr ⟨i, h2, by rw [hb' v h0 h1, if_neg e]; exact h3, h4, by rw [hx' v h0 h1, if_neg e]; omega, by rw [hl' v h0 h1, if_neg e]; omega, by rw [hl' v h0 h1, if_neg e]; exact h7, by rw [hl' v h0 h1, if_neg e]; exact h8⟩
  · -- telescoping over the old values
    have tel : ∀ t, Valid Y b' t v → x (itr Y b' t v) + sumC Y C b' t v ≤ x v ∧ ((∃ s, s < t ∧ itr Y b' s v = X j) → x (itr Y b' t v) + sumC Y C b' t v < x v) := by
      intro t
      induction t with
      | zero => exact fun _ => ⟨by simp [itr, sumC], fun ⟨s, hs0, _⟩ => by omega⟩
      | succ t ih =>
        intro hv'
        have ih' := ih (fun s hs0 => hv' s (by omega))
        have hu := itr_range hs h0 h1 hlm' t (fun s hs0 => hv' s (by omega))
        have hbu := hv' t (by omega)
        have hstep : x (nx Y b' (itr Y b' t v)) + C (b' (itr Y b' t v)).toNat ≤ x (itr Y b' t v) ∧ (itr Y b' t v = X j → x (nx Y b' (itr Y b' t v)) + C (b' (itr Y b' t v)).toNat < x (itr Y b' t v)) := by
          by_cases e : itr Y b' t v = X j
          · unfold nx
            rw [hb' _ hu.1 hu.2, if_pos e, Int.toNat_natCast, e]
            exact ⟨by omega, fun _ => hlow⟩
          · have hbb : b' (itr Y b' t v) = b (itr Y b' t v) := by rw [hb' _ hu.1 hu.2, if_neg e]
            rw [hbb] at hbu
            obtain ⟨i, h2, h3, h4, h5, _⟩ := h.at_ hu.1 hu.2 hbu
            unfold nx
            rw [hbb, h3, Int.toNat_natCast]
            exact ⟨h5, fun e2 => absurd e2 e⟩
        simp only [itr, sumC]
        refine ⟨by omega, fun ⟨s, hs0, hs1⟩ => ?_⟩
        by_cases e : s = t
        · subst e; have := hstep.2 hs1; omega
        · have := ih'.2 ⟨s, by omega, hs1⟩; omega
    by_cases hit : ∃ s, s < k ∧ itr Y b' s v = X j
    · have := (tel k hv).2 hit
      rw [hc] at this; omega
    · have same : ∀ t, t ≤ k → itr Y b' t v = itr Y b t v ∧ sumC Y C b' t v = sumC Y C b t v := by
        intro t
        induction t with
        | zero => exact fun _ => ⟨rfl, rfl⟩
        | succ t ih =>
          intro ht
          obtain ⟨i1, i2⟩ := ih (by omega)
          have hu := itr_range hs h0 h1 hlm' t (fun s hs0 => hv s (by omega))
          have hbb : b' (itr Y b' t v) = b (itr Y b' t v) := by
            rw [hb' _ hu.1 hu.2, if_neg (fun e => hit ⟨t, by omega, e⟩)]
          simp only [itr, sumC, nx]
          rw [hbb, i1, i2]
          exact ⟨rfl, rfl⟩
      have hv2 : Valid Y b k v := fun t ht => by
        have hu := itr_range hs h0 h1 hlm' t (fun s hs0 => hv s (by omega))
        have h2 := hv t ht
        rw [hb' _ hu.1 hu.2, if_neg (fun e => hit ⟨t, ht, e⟩), (same t (by omega)).1] at h2
        exact h2
      rw [(same k (Nat.le_refl _)).2]
      exact h.c v k hk h0 h1 hv2 (by rw [← (same k (Nat.le_refl _)).1]; exact hc)
  · have hyi := hs.hy i hi
    have hxi := hs.hx i hi
    rw [hl' _ hyi.1 hyi.2] at hl
    by_cases e : Y i = X j
    · rw [if_pos e] at hl; omega
    · rw [if_neg e] at hl
      rw [hx' (Y i) hyi.1 hyi.2, if_neg e]
      by_cases eij : i = j
      · subst eij; rw [hx' _ hxi.1 hxi.2, if_pos rfl]; exact Int.le_refl _
      · have h2 := h.d1 i hi (by omega) hl
        have h3 := hxle (X i) hxi.1 hxi.2
        omega
  · have hyi := hs.hy i hi
    have hxi := hs.hx i hi
    rw [hl' _ hyi.1 hyi.2] at hl
    by_cases e : Y i = X j
    · rw [if_pos e] at hl; omega
    · rw [if_neg e] at hl
      rw [hx' (Y i) hyi.1 hyi.2, if_neg e]
      have h2 := h.d2 i hi (by omega) hl
      have h3 := hxle (X i) hxi.1 hxi.2
      omega
/-- Of n + 1 numbers below n two are equal. -/
theorem pigeon : ∀ (n : Nat) (p : Nat → Nat), (∀ t, t ≤ n → p t < n) → ∃ a c, a < c ∧ c ≤ n ∧ p a = p c
  | 0, p, h => absurd (h 0 (Nat.le_refl _)) (by omega)
  | n + 1, p, h => by
    by_cases hz : ∃ t, t ≤ n ∧ p t = p (n + 1)
    · obtain ⟨t, ht, he⟩ := hz; exact ⟨t, n + 1, by omega, Nat.le_refl _, he⟩
    · -- squeeze the value of p (n + 1) out
      have hne : ∀ t, t ≤ n → p t ≠ p (n + 1) := fun t ht he => hz ⟨t, ht, he⟩
      have hl := h (n + 1) (Nat.le_refl _)
      obtain ⟨a, c, hac, hc, he⟩ := pigeon n (fun t => if p t < p (n + 1) then p t else p t - 1) (fun t ht => by
        have h1 := h t (by omega)
        have h2 := hne t ht
        show (if p t < p (n + 1) then p t else p t - 1) < n
        split <;> omega)
      refine ⟨a, c, hac, by omega, ?_⟩
      have h1 := hne a (by omega)
      have h2 := hne c hc
      (try simp only at he)
      (repeat' split at he) <;> omega
theorem itr_add (Y : Nat → Int) (b : Int → Int) (s : Nat) (v : Int) : ∀ t, itr Y b (t + s) v = itr Y b t (itr Y b s v)
  | 0 => by rw [Nat.zero_add]; rfl
  | t + 1 => by rw [Nat.add_right_comm]; show nx Y b _ = nx Y b _; rw [itr_add Y b s v t]
/-- After n + 1 rounds that all lowered something, the last lowered variable leads into a negative cycle. -/
theorem Inv.cycle (hs : Sys m n X Y C) {x b lev : Int → Int} (h : Inv m n X Y C n m x b lev) {v : Int} (h0 : 0 ≤ v) (h1 : v < n) (hl : lev v = n) :
    (∀ t, 0 ≤ b (itr Y b t v)) ∧ ∃ L, 0 < L ∧ L ≤ n ∧ itr Y b L (itr Y b n v) = itr Y b n v := by
  have hlm := h.lt_m
  have key : ∀ t, t ≤ n → (0 ≤ itr Y b t v ∧ itr Y b t v < n) ∧ (n : Int) - t ≤ lev (itr Y b t v) := by
    intro t
    induction t with
    | zero => intro _; exact ⟨⟨h0, h1⟩, by show _ ≤ lev v; omega⟩
    | succ t ih =>
      intro ht
      obtain ⟨⟨i1, i2⟩, i3⟩ := ih (by omega)
      rcases h.a _ i1 i2 with ⟨_, h3⟩ | ⟨i, h2, h3, h4, h5, h6, h7, h8⟩
      · omega
      · have : itr Y b (t + 1) v = Y i := by show Y (b (itr Y b t v)).toNat = _; rw [h3, Int.toNat_natCast]
        rw [this]
        exact ⟨hs.hy i h2, by omega⟩
  have hval : ∀ t, t ≤ n → 0 ≤ b (itr Y b t v) := fun t ht => by
    obtain ⟨⟨i1, i2⟩, i3⟩ := key t ht
    rcases h.a _ i1 i2 with ⟨_, h3⟩ | ⟨i, _, h3, _⟩
    · omega
    · omega
  obtain ⟨a, c, hac, hc, he⟩ := pigeon n (fun t => (itr Y b t v).toNat) (fun t ht => by have := (key t ht).1; show (itr Y b t v).toNat < n; omega)
  have hac2 : itr Y b a v = itr Y b c v := by
    have k1 := (key a (by omega)).1
    have k2 := (key c hc).1
    have he' : (itr Y b a v).toNat = (itr Y b c v).toNat := he
    omega
  have per : ∀ t, a ≤ t → itr Y b (t + (c - a)) v = itr Y b t v := fun t ht => by
    have e1 : t + (c - a) = (t - a) + c := by omega
    have e2 : t = (t - a) + a := by omega
    rw [e1, itr_add, ← hac2, ← itr_add, ← e2]
  refine ⟨fun t => ?_, c - a, by omega, by omega, ?_⟩
  · induction t using Nat.strongRecOn with
    | ind t ih =>
      by_cases ht : t ≤ n
      · exact hval t ht
      · have := per (t - (c - a)) (by omega)
        rw [show t - (c - a) + (c - a) = t from by omega] at this
        rw [this]
        exact ih _ (by omega)
  · rw [← itr_add, Nat.add_comm]
    exact per n (by omega)
/-- Behind a negative cycle no values satisfy all constraints. -/
theorem Inv.no (hs : Sys m n X Y C) {x b lev : Int → Int} (h : Inv m n X Y C n m x b lev) {v : Int} (h0 : 0 ≤ v) (h1 : v < n) (hl : lev v = n) (y : Int → Int) (hy : ∀ i, i < m → y (X i) ≤ y (Y i) + C i) : False := by
  obtain ⟨hval, L, hL, _, hc⟩ := h.cycle hs h0 h1 hl
  have hlm := h.lt_m
  have hrng : ∀ t, 0 ≤ itr Y b t v ∧ itr Y b t v < n := fun t => itr_range hs h0 h1 hlm t (fun s _ => hval s)
  obtain ⟨u, hu⟩ : ∃ u, u = itr Y b n v := ⟨_, rfl⟩
  rw [← hu] at hc
  have hru : ∀ t, 0 ≤ itr Y b t u ∧ itr Y b t u < n := fun t => by rw [hu, ← itr_add]; exact hrng _
  have hvu : ∀ t, 0 ≤ b (itr Y b t u) := fun t => by rw [hu, ← itr_add]; exact hval _
  have key : ∀ t, y u ≤ y (itr Y b t u) + sumC Y C b t u := by
    intro t
    induction t with
    | zero => show y u ≤ y u + 0; omega
    | succ t ih =>
      obtain ⟨i, h2, h3, h4, _⟩ := h.at_ (hru t).1 (hru t).2 (hvu t)
      have e1 : itr Y b (t + 1) u = Y i := by show Y (b (itr Y b t u)).toNat = _; rw [h3, Int.toNat_natCast]
      have e2 : sumC Y C b (t + 1) u = sumC Y C b t u + C i := by show _ + C (b (itr Y b t u)).toNat = _; rw [h3, Int.toNat_natCast]
      have h5 := hy i h2
      rw [h4] at h5
      rw [e1, e2]; omega
  have hk := key L
  rw [hc] at hk
  have hneg := h.c u L hL (hru 0).1 (hru 0).2 (fun t _ => hvu t) hc
  omega
end
end Go.Proofs.Ytolfnlamknmeaaa.Dm
