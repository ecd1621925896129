/- The law BracketBack, as plain Lean: place and brackets are told from each other. Conditions: none beyond the kinds of the arguments. -/
import Derived.Test.YtbblpddbkdiagaaGA16
import Derived.Test.YtbblpddbkdiagaaEv
namespace Go.Proofs.Ytbblpddbkdiagaa.Pure
set_option linter.unusedVariables false
set_option linter.unusedSimpArgs false
open Go.RowKit Go.Proofs.Ytbblpddbkdiagaa.GA Go.Proofs.YtbblpddbkdiagaaW.PrintWords Go.Proofs.YtbblpddbkdiagaaW.PrintLast

def okD : Nat → List Bool → Bool
  | d, [] => d == 0
  | d, true :: r => okD (d + 1) r
  | 0, false :: _ => false
  | d + 1, false :: r => okD d r
theorem is_loop (l : List Bool) (hl : l.length ≤ 60) : ∀ (d i n : Nat), i + d = l.length → n ≤ i → Ev (fun k => bracket_is.l0 k (n : Int) l (l.length : Int) (i : Int)) (okD n (l.drop i)) := by
  intro d
  induction d with
  | zero =>
    intro i n hi hn
    refine Ev.step (fun k => by rw [bracket_is.l0]) (Ev.neg (by omega) (Ev.eq (Ev.now _) ?_))
    rw [List.drop_eq_nil_of_le (by omega)]
    simp only [okD]
    rw [Bool.eq_iff_iff, beq_iff_eq, beq_iff_eq]; omega
  | succ d ih =>
    intro i n hi hn
    refine Ev.step (fun k => by rw [bracket_is.l0]) (Ev.pos (by omega) (Ev.pos (by omega) (Ev.pos (by omega) ?_)))
    have e : l[i]'(by omega) = l.getD i false := by simp [List.getD_eq_getElem?_getD, List.getElem?_eq_getElem (by omega : i < l.length)]
    rw [rdOf_nat, w64 (n := (i : Int) + 1) (by omega) (by omega), List.drop_eq_getElem_cons (by omega : i < l.length), e]
    cases l.getD i false with
    | true =>
      refine Ev.pos rfl ?_
      rw [w64 (by omega) (by omega)]
      exact ih (i + 1) (n + 1) (by omega) (by omega)
    | false =>
      refine Ev.neg (by simp) ?_
      rw [w64 (by omega) (by omega)]
      cases n with
      | zero => exact Ev.pos (by omega) (Ev.now _)
      | succ n =>
        refine Ev.neg (by omega) ?_
        have := ih (i + 1) n (by omega) (by omega)
        rw [show ((n + 1 : Nat) : Int) - 1 = (n : Int) by omega]
        exact this
theorem is_spec (l : List Bool) (hl : l.length ≤ 60) : Ev (fun k => bracket_is.f k l) (okD 0 l) := by
  have := is_loop l hl l.length 0 0 (by omega) (by omega)
  rw [List.drop_zero] at this
  exact this
/-- The ways from depth d to depth 0 in t steps. -/
def W : Nat → Nat → Nat
  | 0, 0 => 1
  | 0, _ + 1 => 0
  | t + 1, 0 => W t 1
  | t + 1, d + 1 => W t d + W t (d + 1 + 1)
theorem W_le : ∀ t d : Nat, W t d ≤ 2 ^ t
  | 0, 0 => by simp [W]
  | 0, _ + 1 => by simp [W]
  | t + 1, 0 => by
    have := W_le t 1
    simp only [W]
    rw [Nat.pow_succ]; omega
  | t + 1, d + 1 => by
    have := W_le t d
    have := W_le t (d + 1 + 1)
    simp only [W]
    rw [Nat.pow_succ]; omega
theorem W_16 {t d : Nat} (h : t ≤ 16) : W t d ≤ 65536 := Nat.le_trans (W_le t d) (by
  have : 2 ^ t ≤ 2 ^ 16 := Nat.pow_le_pow_right (by omega) h
  simpa using this)
theorem W_up (t d : Nat) : W t (d + 1) ≤ W (t + 1) d := by
  cases d with
  | zero => exact Nat.le_refl _
  | succ d => simp only [W]; omega
theorem set_getD (xs : List Int) (n t : Nat) (a : Int) (h : n < xs.length) : (xs.set n a).getD t 0 = if t = n then a else xs.getD t 0 := by
  simp only [List.getD_eq_getElem?_getD, List.getElem?_set]
  by_cases c : t = n
  · subst c; simp [h]
  · rw [if_neg c, if_neg (fun e => c e.symm)]
theorem ways_inner (x1 : Int) (R t : Nat) (hR : R ≤ 1000) (hR2 : 2 ≤ R) (ht : t + 1 ≤ 16) (x5 : List Int) (h5 : x5.length = R) (hrow : ∀ e : Nat, e + t + 1 ≤ R → x5.getD e 0 = (W t e : Int)) (x15 x16 : Int) (r : Int) :
    ∀ (c d : Nat) (x6 : List Int), d + c = R → x6.length = R → (∀ e : Nat, e < d → e + t + 2 ≤ R → x6.getD e 0 = (W (t + 1) e : Int)) → (∀ e : Nat, d ≤ e → x6.getD e 0 = 0) →
      (∀ y : List Int, y.length = R → (∀ e : Nat, e + t + 2 ≤ R → y.getD e 0 = (W (t + 1) e : Int)) → Ev (fun k => bracket_ways.l0 k x1 y x15 (wrap64 (x16 + 1))) r) →
      Ev (fun k => bracket_ways.l1 k x1 x5 x6 x15 x16 (R : Int) (d : Int)) r := by
  intro c
  induction c with
  | zero =>
    intro d x6 hd h6 hlo hhi hk
    refine Ev.step (fun k => by rw [bracket_ways.l1]) (Ev.neg (by omega) ?_)
    exact hk x6 h6 fun e he => hlo e (by omega) he
  | succ c ih =>
    intro d x6 hd h6 hlo hhi hk
    refine Ev.step (fun k => by rw [bracket_ways.l1]) (Ev.pos (by omega) ?_)
    have e1 : wrap64 ((d : Int) + 1) = ((d + 1 : Nat) : Int) := by rw [w64 (by omega) (by omega)]; omega
    rcases Nat.eq_zero_or_pos d with h0 | h0
    · subst h0
      refine Ev.neg (by omega) ?_
      rw [e1]
      refine Ev.pos (by omega) (Ev.pos (by omega) (Ev.pos (by omega) (Ev.pos (by omega) ?_)))
      rw [rd_nat, rd_nat, Int.toNat_natCast, hhi 0 (by omega)]
      refine ih 1 _ (by omega) (by simp [h6]) (fun e he1 he2 => ?_) (fun e he => ?_) hk
      · obtain rfl : e = 0 := by omega
        rw [set_getD _ _ _ _ (by omega), if_pos rfl, hrow 1 (by omega)]
        have := W_16 (t := t) (d := 1) (by omega)
        rw [w64 (by omega) (by omega)]
        simp only [W]; omega
      · rw [set_getD _ _ _ _ (by omega), if_neg (by omega)]
        exact hhi e (by omega)
    · have e2 : wrap64 ((d : Int) - 1) = ((d - 1 : Nat) : Int) := by rw [w64 (by omega) (by omega)]; omega
      refine Ev.pos (by omega) (Ev.pos (by omega) (Ev.pos (by omega) ?_))
      rw [e1, e2]
      refine Ev.pos (by omega) (Ev.pos (by omega) (Ev.let_ ?_))
      rw [rd_nat, rd_nat, Int.toNat_natCast, hhi d (by omega)]
      by_cases hc : d + 1 < R
      · refine Ev.pos (by omega) (Ev.pos (by omega) ?_)
        rw [rd_nat, rd_nat, set_getD _ _ _ _ (by omega), if_pos rfl]
        refine ih (d + 1) _ (by omega) (by simp [h6]) (fun e he1 he2 => ?_) (fun e he => ?_) hk
        · rcases Nat.lt_or_ge e d with c1 | c1
          · rw [set_getD _ _ _ _ (by simp; omega), if_neg (by omega), set_getD _ _ _ _ (by omega), if_neg (by omega)]
            exact hlo e c1 he2
          · obtain rfl : e = d := by omega
            rw [set_getD _ _ _ _ (by simp; omega), if_pos rfl, hrow (e - 1) (by omega), hrow (e + 1) (by omega)]
            have a1 := W_16 (t := t) (d := e - 1) (by omega)
            have a2 := W_16 (t := t) (d := e + 1) (by omega)
            rw [w64 (n := 0 + (W t (e - 1) : Int)) (by omega) (by omega), w64 (by omega) (by omega)]
            obtain ⟨f, rfl⟩ : ∃ f, e = f + 1 := ⟨e - 1, by omega⟩
            rw [Nat.add_sub_cancel]
            simp only [W]; omega
        · rw [set_getD _ _ _ _ (by simp; omega), if_neg (by omega), set_getD _ _ _ _ (by omega), if_neg (by omega)]
          exact hhi e (by omega)
      · refine Ev.neg (by omega) ?_
        refine ih (d + 1) _ (by omega) (by simp [h6]) (fun e he1 he2 => ?_) (fun e he => ?_) hk
        · rw [set_getD _ _ _ _ (by omega), if_neg (by omega)]
          exact hlo e (by omega) he2
        · rw [set_getD _ _ _ _ (by omega), if_neg (by omega)]
          exact hhi e (by omega)
theorem ways_outer (R D T : Nat) (hR : R ≤ 1000) (hR2 : 2 ≤ R) (hD : D + T + 1 ≤ R) (hT : T ≤ 16) : ∀ (c t : Nat) (x5 : List Int), t + c = T → x5.length = R → (∀ e : Nat, e + t + 1 ≤ R → x5.getD e 0 = (W t e : Int)) →
    Ev (fun k => bracket_ways.l0 k (D : Int) x5 (T : Int) (t : Int)) (W T D : Int) := by
  intro c
  induction c with
  | zero =>
    intro t x5 ht h5 hrow
    obtain rfl : t = T := by omega
    refine Ev.step (fun k => by rw [bracket_ways.l0]) (Ev.neg (by omega) (Ev.pos (by omega) (Ev.pos (by omega) (Ev.eq (Ev.now _) ?_))))
    rw [rd_nat, hrow D (by omega)]
  | succ c ih =>
    intro t x5 ht h5 hrow
    refine Ev.step (fun k => by rw [bracket_ways.l0]) (Ev.pos (by omega) ?_)
    rw [h5]
    refine Ev.pos (by omega) (Ev.pos (by omega) ?_)
    rw [Int.toNat_natCast]
    refine ways_inner (D : Int) R t hR hR2 (by omega) x5 h5 hrow (T : Int) (t : Int) (W T D : Int) R 0 _ (by omega) (by simp) (fun e he => by omega) (fun e he => ?_) (fun y hy hyr => ?_)
    · simp only [List.getD_eq_getElem?_getD, List.getElem?_replicate]
      by_cases c : e < R
      · rw [if_pos c]; rfl
      · rw [if_neg c]; rfl
    · rw [w64 (by omega) (by omega), show (t : Int) + 1 = ((t + 1 : Nat) : Int) by omega]
      exact ih (t + 1) y (by omega) hy fun e he => hyr e (by omega)
theorem ways_spec (T D : Nat) (hT : T ≤ 16) (hD : D ≤ 100) : Ev (fun k => bracket_ways.f k (T : Int) (D : Int)) (W T D : Int) := by
  unfold bracket_ways.f
  have e : wrap64 (wrap64 ((T : Int) + (D : Int)) + 2) = ((T + D + 2 : Nat) : Int) := by rw [w64 (n := (T : Int) + (D : Int)) (by omega) (by omega), w64 (by omega) (by omega)]; omega
  rw [e]
  refine Ev.pos (by omega) (Ev.pos (by omega) (Ev.let_ (Ev.pos (by simp <;> omega) ?_)))
  rw [Int.toNat_natCast]
  refine ways_outer (T + D + 2) D T (by omega) (by omega) (by omega) hT T 0 _ (by omega) (by simp) fun e he => ?_
  rw [show (0 : Int).toNat = 0 from rfl, set_getD _ _ _ _ (by simp)]
  cases e with
  | zero => simp [W]
  | succ e =>
    rw [if_neg (by omega)]
    simp only [List.getD_eq_getElem?_getD, List.getElem?_replicate, W]
    rw [if_pos (by omega)]; rfl
/-- The place of brackets, from depth d on. -/
def rk : Nat → List Bool → Nat
  | _, [] => 0
  | d, true :: r => rk (d + 1) r
  | d, false :: r => W r.length (d + 1) + rk (d - 1) r
/-- The brackets at a place. -/
def un : Nat → Nat → Nat → List Bool
  | 0, _, _ => []
  | t + 1, d, i => if i < W t (d + 1) then true :: un t (d + 1) i else false :: un t (d - 1) (i - W t (d + 1))
theorem back1 : ∀ (l : List Bool) (d : Nat), okD d l = true → rk d l < W l.length d ∧ un l.length d (rk d l) = l
  | [], d, h => by
    simp only [okD, beq_iff_eq] at h
    subst h
    simp [rk, W, un]
  | true :: r, d, h => by
    simp only [okD] at h
    obtain ⟨h1, h2⟩ := back1 r (d + 1) h
    have := W_up r.length d
    simp only [rk, List.length_cons, un]
    refine ⟨by omega, ?_⟩
    rw [if_pos h1, h2]
  | false :: r, 0, h => by simp [okD] at h
  | false :: r, d + 1, h => by
    simp only [okD] at h
    obtain ⟨h1, h2⟩ := back1 r d h
    simp only [rk, List.length_cons, un, Nat.add_sub_cancel, W]
    refine ⟨by omega, ?_⟩
    rw [if_neg (by omega), show W r.length (d + 1 + 1) + rk d r - W r.length (d + 1 + 1) = rk d r by omega, h2]
theorem back2 : ∀ (t d i : Nat), i < W t d → (un t d i).length = t ∧ okD d (un t d i) = true ∧ rk d (un t d i) = i
  | 0, 0, i, h => by
    simp only [W] at h
    have : i = 0 := by omega
    subst this
    simp [un, okD, rk]
  | 0, d + 1, i, h => by simp [W] at h
  | t + 1, d, i, h => by
    simp only [un]
    by_cases c : i < W t (d + 1)
    · rw [if_pos c]
      obtain ⟨h1, h2, h3⟩ := back2 t (d + 1) i c
      simp only [List.length_cons, okD, rk]
      exact ⟨by omega, h2, h3⟩
    · rw [if_neg c]
      cases d with
      | zero => exact absurd h c
      | succ d =>
        simp only [W] at h
        obtain ⟨h1, h2, h3⟩ := back2 t d (i - W t (d + 1 + 1)) (by omega)
        simp only [List.length_cons, okD, rk, Nat.add_sub_cancel]
        refine ⟨by omega, h2, ?_⟩
        rw [h1, h3]; omega
theorem okD_even : ∀ (l : List Bool) (d : Nat), okD d l = true → (l.length + d) % 2 = 0 ∧ d ≤ l.length
  | [], d, h => by
    simp only [okD, beq_iff_eq] at h
    subst h; simp
  | true :: r, d, h => by
    simp only [okD] at h
    have := okD_even r (d + 1) h
    simp only [List.length_cons]; omega
  | false :: r, 0, h => by simp [okD] at h
  | false :: r, d + 1, h => by
    simp only [okD] at h
    have := okD_even r d h
    simp only [List.length_cons]; omega
theorem rank_loop (l : List Bool) (hl : l.length ≤ 16) : ∀ (c i d s : Nat), i + c = l.length → d ≤ i → okD d (l.drop i) = true → s + rk d (l.drop i) ≤ 1000000 → Ev (fun k => bracket_Rank.l0 k l (s : Int) (d : Int) l (l.length : Int) (i : Int)) (((s + rk d (l.drop i) : Nat) : Int), 0) := by
  intro c
  induction c with
  | zero =>
    intro i d s hi hd ho hs
    refine Ev.step (fun k => by rw [bracket_Rank.l0]) (Ev.neg (by omega) (Ev.eq (Ev.now _) ?_))
    rw [List.drop_eq_nil_of_le (by omega)]; simp [rk]
  | succ c ih =>
    intro i d s hi hd ho hs
    refine Ev.step (fun k => by rw [bracket_Rank.l0]) (Ev.pos (by omega) (Ev.pos (by omega) (Ev.pos (by omega) ?_)))
    have e : l[i]'(by omega) = l.getD i false := by simp [List.getD_eq_getElem?_getD, List.getElem?_eq_getElem (by omega : i < l.length)]
    have ed : l.drop i = l.getD i false :: l.drop (i + 1) := by rw [List.drop_eq_getElem_cons (by omega : i < l.length), e]
    rw [ed] at ho hs ⊢
    rw [rdOf_nat, w64 (n := (i : Int) + 1) (by omega) (by omega)]
    have hld : (l.drop (i + 1)).length = l.length - (i + 1) := List.length_drop
    cases hb : l.getD i false with
    | true =>
      rw [hb] at ho hs
      simp only [okD, rk] at ho hs
      show Ev _ (((s + rk (d + 1) (l.drop (i + 1)) : Nat) : Int), 0)
      refine Ev.pos rfl ?_
      rw [w64 (by omega) (by omega)]
      exact ih (i + 1) (d + 1) s (by omega) (by omega) ho hs
    | false =>
      rw [hb] at ho hs
      cases d with
      | zero => simp [okD] at ho
      | succ d =>
        simp only [okD, rk, Nat.add_sub_cancel] at ho hs
        have er : rk (d + 1) (false :: l.drop (i + 1)) = W (l.drop (i + 1)).length (d + 1 + 1) + rk d (l.drop (i + 1)) := by simp only [rk, Nat.add_sub_cancel]
        rw [er]
        refine Ev.neg (by decide) ?_
        have e3 : wrap64 (wrap64 ((l.length : Int) - 1) - (i : Int)) = ((l.length - (i + 1) : Nat) : Int) := by rw [w64 (n := (l.length : Int) - 1) (by omega) (by omega), w64 (by omega) (by omega)]; omega
        have e4 : wrap64 (((d + 1 : Nat) : Int) + 1) = ((d + 1 + 1 : Nat) : Int) := by rw [w64 (by omega) (by omega)]; omega
        rw [e3, e4]
        clear e3 e4
        have hT : l.length - (i + 1) ≤ 16 := by omega
        have hD : d + 1 + 1 ≤ 100 := by clear hs er; omega
        refine Ev.bind (ways_spec (l.length - (i + 1)) (d + 1 + 1) hT hD) ?_
        rw [hld] at hs ⊢
        generalize W (l.length - (i + 1)) (d + 1 + 1) = X at *
        have := ih (i + 1) d (s + X) (by omega) (by omega) ho (by omega)
        generalize rk d (l.drop (i + 1)) = Y at *
        rw [w64 (n := (s : Int) + (X : Int)) (by omega) (by omega), w64 (n := ((d + 1 : Nat) : Int) - 1) (by omega) (by omega)]
        rw [show (s : Int) + (X : Int) = ((s + X : Nat) : Int) by omega, show ((d + 1 : Nat) : Int) - 1 = (d : Int) by omega, ← Nat.add_assoc]
        exact this
theorem rank_spec (l : List Bool) (hl : l.length ≤ 16) : Ev (fun k => bracket_Rank.f k l) (if okD 0 l = true then (((rk 0 l : Nat) : Int), 0) else (0, 3)) := by
  unfold bracket_Rank.f
  refine Ev.neg (by omega) (Ev.bind (is_spec l (by omega)) ?_)
  by_cases h : okD 0 l = true
  · rw [if_pos h]
    have h1 := (back1 l 0 h).1
    have h2 := W_16 (t := l.length) (d := 0) hl
    have := rank_loop l hl l.length 0 0 0 (by omega) (by omega) (by rw [List.drop_zero]; exact h) (by rw [List.drop_zero]; omega)
    rw [List.drop_zero, Nat.zero_add] at this
    exact Ev.pos h this
  · rw [if_neg h]
    exact Ev.neg h (Ev.now _)
theorem many_spec (n : Int) : Ev (fun k => bracket_Many.f k n) (if n < 0 ∨ n > 8 then (0, 1) else (((W (2 * n.toNat) 0 : Nat) : Int), 0)) := by
  unfold bracket_Many.f
  by_cases h0 : n < 0
  · rw [if_pos (Or.inl h0)]; exact Ev.pos h0 (Ev.now _)
  · refine Ev.neg h0 ?_
    by_cases h8 : n > 8
    · rw [if_pos (Or.inr h8)]; exact Ev.pos h8 (Ev.now _)
    · rw [if_neg (by omega)]
      refine Ev.neg h8 ?_
      rw [w64 (by omega) (by omega), show 2 * n = ((2 * n.toNat : Nat) : Int) by omega]
      exact Ev.bind (ways_spec (2 * n.toNat) 0 (by omega) (by omega)) (Ev.now _)
theorem word_loop (n : Nat) (hn : n ≤ 8) : ∀ (c : Nat) (acc : List Bool) (d i : Nat), acc.length + c = 2 * n → d ≤ acc.length → i < W c d → Ev (fun k => bracket_Word.l0 k (n : Int) (i : Int) acc (d : Int)) (acc ++ un c d i, 0) := by
  intro c
  induction c with
  | zero =>
    intro acc d i ha hd hi
    refine Ev.step (fun k => by rw [bracket_Word.l0]) (Ev.neg (by rw [w64 (by omega) (by omega)]; omega) (Ev.eq (Ev.now _) ?_))
    simp [un]
  | succ c ih =>
    intro acc d i ha hd hi
    refine Ev.step (fun k => by rw [bracket_Word.l0]) ?_
    have e0 : wrap64 (2 * (n : Int)) = ((2 * n : Nat) : Int) := by rw [w64 (by omega) (by omega)]; omega
    have e1 : wrap64 (wrap64 (((2 * n : Nat) : Int) - 1) - (acc.length : Int)) = (c : Int) := by rw [w64 (n := ((2 * n : Nat) : Int) - 1) (by omega) (by omega), w64 (by omega) (by omega)]; omega
    have e2 : wrap64 ((d : Int) + 1) = ((d + 1 : Nat) : Int) := by rw [w64 (by omega) (by omega)]; omega
    rw [e0, e1, e2]
    clear e0 e1 e2
    refine Ev.pos (by omega) (Ev.bind (ways_spec c (d + 1) (by omega) (by omega)) ?_)
    have hW := W_16 (t := c) (d := d) (by omega)
    have hWc := W_16 (t := c) (d := d + 1) (by omega)
    simp only [un]
    by_cases hc : i < W c (d + 1)
    · rw [if_pos hc]
      refine Ev.pos (by omega) (Ev.pos (by omega) ?_)
      have := ih (acc ++ [true]) (d + 1) i (by simp <;> omega) (by simp <;> omega) hc
      rw [List.append_assoc, List.singleton_append] at this
      exact this
    · rw [if_neg hc]
      cases d with
      | zero => exact absurd hi hc
      | succ d =>
        simp only [W] at hi
        have hW2 := W_16 (t := c) (d := d) (by omega)
        refine Ev.neg (by omega) (Ev.pos (by omega) ?_)
        have := ih (acc ++ [false]) d (i - W c (d + 1 + 1)) (by simp <;> omega) (by simp <;> omega) (by omega)
        rw [List.append_assoc, List.singleton_append] at this
        rw [w64 (n := (i : Int) - (W c (d + 1 + 1) : Int)) (by omega) (by omega), w64 (n := ((d + 1 : Nat) : Int) - 1) (by omega) (by omega),
          show (i : Int) - (W c (d + 1 + 1) : Int) = ((i - W c (d + 1 + 1) : Nat) : Int) by omega, show ((d + 1 : Nat) : Int) - 1 = (d : Int) by omega, Nat.add_sub_cancel]
        exact this
/-- bracket.Word: nothing and an error, or the brackets at the place. -/
theorem word_spec (n i : Int) : ((n < 0 ∨ n > 8 ∨ i < 0 ∨ i ≥ ((W (2 * n.toNat) 0 : Nat) : Int)) ∧ ∃ e : Int, e ≠ 0 ∧ Ev (fun k => bracket_Word.f k n i) ([], e)) ∨ (0 ≤ n ∧ n ≤ 8 ∧ 0 ≤ i ∧ i.toNat < W (2 * n.toNat) 0 ∧ Ev (fun k => bracket_Word.f k n i) (un (2 * n.toNat) 0 i.toNat, 0)) := by
  have hm := many_spec n
  by_cases hn : n < 0 ∨ n > 8
  · rw [if_pos hn] at hm
    left
    refine ⟨by omega, 1, by decide, ?_⟩
    unfold bracket_Word.f
    exact Ev.bind hm (Ev.neg (by decide) (Ev.now _))
  · rw [if_neg hn] at hm
    by_cases hi : i < 0 ∨ i ≥ ((W (2 * n.toNat) 0 : Nat) : Int)
    · left
      refine ⟨by omega, 5, by decide, ?_⟩
      unfold bracket_Word.f
      refine Ev.bind hm (Ev.pos rfl ?_)
      by_cases h0 : i < 0
      · exact Ev.pos h0 (Ev.step (fun k => by rw [bracket_Word.j0]) (Ev.pos rfl (Ev.now _)))
      · refine Ev.neg h0 (Ev.step (fun k => by rw [bracket_Word.j0]) (Ev.pos ?_ (Ev.now _)))
        rw [decide_eq_true_iff]
        exact hi.resolve_left h0
    · right
      refine ⟨by omega, by omega, by omega, by omega, ?_⟩
      unfold bracket_Word.f
      refine Ev.bind hm (Ev.pos rfl (Ev.neg (by omega) (Ev.step (fun k => by rw [bracket_Word.j0]) (Ev.neg ?_ ?_))))
      · rw [decide_eq_true_iff]; exact fun c => hi (Or.inr c)
      · have := word_loop n.toNat (by omega) (2 * n.toNat) [] 0 i.toNat (by simp) (by simp) (by omega)
        rw [Int.toNat_of_nonneg (by omega), Int.toNat_of_nonneg (by omega)] at this
        exact this
theorem okD_cancel : ∀ (a r : List Bool) (d : Nat), okD d (a ++ true :: false :: r) = okD d (a ++ r)
  | [], r, d => by simp [okD]
  | true :: a, r, d => by simp only [List.cons_append, okD]; exact okD_cancel a r (d + 1)
  | false :: a, r, 0 => by simp [okD]
  | false :: a, r, d + 1 => by simp only [List.cons_append, okD]; exact okD_cancel a r d
theorem okD_nofall : ∀ (x : List Bool) (d : Nat), (∀ j, j + 1 < (true :: x).length → ¬ ((true :: x).getD j false = true ∧ (true :: x).getD (j + 1) false = false)) → okD d (true :: x) = false
  | [], d, _ => by simp [okD]
  | false :: r, d, h => absurd ⟨rfl, rfl⟩ (h 0 (by simp))
  | true :: r, d, h => by
    have := okD_nofall r (d + 1) fun j hj hh => h (j + 1) (by simp at hj ⊢; omega) (by simpa using hh)
    simpa only [okD] using this
theorem okD_flat (x : List Bool) (h : ∀ j, j + 1 < x.length → ¬ (x.getD j false = true ∧ x.getD (j + 1) false = false)) : okD 0 x = ((x.length : Int) == 0) := by
  match x, h with
  | [], _ => rfl
  | false :: r, _ => simp [okD]; omega
  | true :: r, h => rw [okD_nofall r 0 h]; symm; rw [beq_eq_false_iff_ne]; simp; omega
theorem closed_loop : ∀ (m : Nat) (x : List Bool), x.length ≤ 1000 → x.length = m → ∀ (d i : Nat), (i + 1 + d = x.length ∨ d = 0 ∧ x.length ≤ i + 1 ∧ i ≤ 2000) → (∀ j, j < i → j + 1 < x.length → ¬ (x.getD j false = true ∧ x.getD (j + 1) false = false)) → Ev (fun k => coppicerref_Closed.l0 k x (i : Int)) (okD 0 x) := by
  intro m
  induction m using Nat.strongRecOn with
  | ind m ihm =>
    intro x hx hm d
    induction d with
    | zero =>
      intro i hi h
      refine Ev.step (fun k => by rw [coppicerref_Closed.l0]) ?_
      rw [w64 (n := (i : Int) + 1) (by omega) (by omega)]
      refine Ev.neg (by omega) (Ev.eq (Ev.now _) ?_)
      rw [okD_flat x fun j hj => h j (by omega) hj]
    | succ d ih =>
      intro i hi h
      have hi : i + 1 + (d + 1) = x.length := by omega
      refine Ev.step (fun k => by rw [coppicerref_Closed.l0]) ?_
      have e1 : wrap64 ((i : Int) + 1) = ((i + 1 : Nat) : Int) := by rw [w64 (by omega) (by omega)]; omega
      have e2 : wrap64 ((i : Int) + 2) = ((i + 2 : Nat) : Int) := by rw [w64 (by omega) (by omega)]; omega
      rw [e1, e2, rdOf_nat, rdOf_nat, Int.toNat_natCast, Int.toNat_natCast]
      refine Ev.pos (by omega) (Ev.pos (by omega) (Ev.pos (by omega) ?_))
      have go_on : ¬ (x.getD i false = true ∧ x.getD (i + 1) false = false) → Ev (fun k => coppicerref_Closed.l0 k x ((i + 1 : Nat) : Int)) (okD 0 x) := fun hn =>
        ih (i + 1) (by omega) fun j hj hj2 => by
          rcases Nat.lt_or_ge j i with c | c
          · exact h j c hj2
          · obtain rfl : j = i := by omega
            exact hn
      cases hb : x.getD i false with
      | false =>
        refine Ev.neg (by simp) (go_on ?_)
        rw [hb]; simp
      | true =>
        refine Ev.pos rfl (Ev.pos (by omega) ?_)
        cases hb2 : x.getD (i + 1) false with
        | true =>
          refine Ev.pos rfl (go_on ?_)
          rw [hb, hb2]; simp
        | false =>
          refine Ev.neg (by simp) (Ev.let_ (Ev.pos (by omega) (Ev.let_ (Ev.pos (by simp <;> omega) (Ev.let_ (Ev.pos (by omega) (Ev.pos (by omega) (Ev.let_ (Ev.pos (by simp <;> omega) ?_)))))))))
          have es : x = x.take i ++ true :: false :: x.drop (i + 2) := by
            have a1 : x.drop i = x[i]'(by omega) :: x.drop (i + 1) := List.drop_eq_getElem_cons (by omega)
            have a2 : x.drop (i + 1) = x[i + 1]'(by omega) :: x.drop (i + 2) := List.drop_eq_getElem_cons (by omega)
            have b1 : x[i]'(by omega) = true := by rw [← hb]; simp [List.getD_eq_getElem?_getD, List.getElem?_eq_getElem (by omega : i < x.length)]
            have b2 : x[i + 1]'(by omega) = false := by rw [← hb2]; simp [List.getD_eq_getElem?_getD, List.getElem?_eq_getElem (by omega : i + 1 < x.length)]
            have a3 := List.take_append_drop i x
            rw [a1, a2, b1, b2] at a3
            exact a3.symm
          have hlen : (x.take i ++ x.drop (i + 2)).length = x.length - 2 := by simp; omega
          have hok : okD 0 x = okD 0 (x.take i ++ x.drop (i + 2)) := by
            have := okD_cancel (x.take i) (x.drop (i + 2)) 0
            rw [← es] at this
            exact this
          rw [hok, List.nil_append]
          exact ihm (x.length - 2) (by omega) _ (by omega) hlen ((x.length - 2) - 1) 0 (by omega) (fun j hj => by omega)
theorem closed_spec (l : List Bool) (hl : l.length ≤ 1000) : Ev (fun k => coppicerref_Closed.f k l) (okD 0 l) := by
  unfold coppicerref_Closed.f
  refine Ev.let_ (Ev.pos (by simp <;> omega) ?_)
  rw [List.nil_append]
  exact closed_loop l.length l hl rfl (l.length - 1) 0 (by omega) (fun j hj => by omega)
theorem bb_end (n i : Int) (hn : -9223372036854775808 ≤ n ∧ n ≤ 9223372036854775807) : Ev (fun k => coppicerkeep_BracketBack.j3 k n i) true := by
  refine Ev.step (fun k => by rw [coppicerkeep_BracketBack.j3]) ?_
  rcases word_spec n i with ⟨_, e, he, hw⟩ | ⟨h1, h2, h3, h4, hw⟩
  · exact Ev.bind hw (Ev.neg he (Ev.eq (Ev.now _) (by simp)))
  · obtain ⟨g1, g2, g3⟩ := back2 _ _ _ h4
    refine Ev.bind hw (Ev.pos rfl ?_)
    have hIs : Ev (fun k => bracket_Is.f k (un (2 * n.toNat) 0 i.toNat)) (true, 0) := by
      unfold bracket_Is.f
      refine Ev.neg (by omega) (Ev.bind (is_spec _ (by omega)) (Ev.eq (Ev.now _) ?_))
      rw [g2]
    have hR := rank_spec (un (2 * n.toNat) 0 i.toNat) (by omega)
    rw [if_pos g2, g3] at hR
    refine Ev.bind hIs (Ev.bind hR (Ev.pos rfl (Ev.pos rfl (Ev.pos rfl (Ev.pos (by simp only; omega) (Ev.eq (Ev.now _) ?_))))))
    dsimp only
    rw [g1, w64 (by omega) (by omega), beq_iff_eq]; omega
theorem bb_same (l : List Bool) (hl : l.length ≤ 16) (n i : Int) (hn : -9223372036854775808 ≤ n ∧ n ≤ 9223372036854775807) : ∀ (d j : Nat), j + d = l.length → Ev (fun k => coppicerkeep_BracketBack.l0 k l n i l (j : Int)) true := by
  intro d
  induction d with
  | zero =>
    intro j hj
    exact Ev.step (fun k => by rw [coppicerkeep_BracketBack.l0]) (Ev.neg (by omega) (bb_end n i hn))
  | succ d ih =>
    intro j hj
    refine Ev.step (fun k => by rw [coppicerkeep_BracketBack.l0]) (Ev.pos (by omega) (Ev.pos (by omega) (Ev.pos (by omega) (Ev.neg (by simp) ?_))))
    rw [w64 (by omega) (by omega)]
    exact ih (j + 1) (by omega)
theorem BracketBack : coppicerkeep_BracketBack.Pure := by
  intro l n i ⟨_, _, _⟩ hn hi
  have hn := wf_i64 hn
  refine Ev.rounds ?_
  unfold coppicerkeep_BracketBack.f
  by_cases h16 : l.length > 16
  · have hR : Ev (fun k => bracket_Rank.f k l) (0, 1) := by
      unfold bracket_Rank.f
      exact Ev.pos (by omega) (Ev.now _)
    refine Ev.bind hR (Ev.pos (by omega) ?_)
    exact Ev.step (fun k => by rw [coppicerkeep_BracketBack.j0]) (Ev.pos rfl (Ev.neg (by decide) (bb_end n i hn)))
  · have hR := rank_spec l (by omega)
    by_cases ho : okD 0 l = true
    · rw [if_pos ho] at hR
      refine Ev.bind hR (Ev.neg (by omega) (Ev.bind (closed_spec l (by omega)) ?_))
      rw [ho]
      refine Ev.step (fun k => by rw [coppicerkeep_BracketBack.j0]) (Ev.neg (by decide) ?_)
      have hev := okD_even l 0 ho
      obtain ⟨b1, b2⟩ := back1 l 0 ho
      have e0 : wrap64 ((l.length : Int) / 2) = ((l.length / 2 : Nat) : Int) := by rw [w64 (by omega) (by omega)]; omega
      dsimp only
      rw [e0]
      have hW : Ev (fun k => bracket_Word.f k ((l.length / 2 : Nat) : Int) ((rk 0 l : Nat) : Int)) (l, 0) := by
        rcases word_spec ((l.length / 2 : Nat) : Int) ((rk 0 l : Nat) : Int) with ⟨hbad, e, he, hw⟩ | ⟨h1, h2, h3, h4, hw⟩
        · exfalso
          rw [Int.toNat_natCast, show 2 * (l.length / 2) = l.length by omega] at hbad
          omega
        · rw [Int.toNat_natCast, Int.toNat_natCast, show 2 * (l.length / 2) = l.length by omega, b2] at hw
          exact hw
      refine Ev.bind hW (Ev.pos rfl (Ev.pos rfl ?_))
      dsimp only
      rw [bne_self_eq_false]
      refine Ev.step (fun k => by rw [coppicerkeep_BracketBack.j1]) ?_
      exact Ev.neg (by decide) (bb_same l (by omega) n i hn l.length 0 (by omega))
    · rw [if_neg ho] at hR
      refine Ev.bind hR (Ev.neg (by omega) (Ev.bind (closed_spec l (by omega)) ?_))
      rw [Bool.not_eq_true] at ho
      rw [ho]
      refine Ev.step (fun k => by rw [coppicerkeep_BracketBack.j0]) ?_
      exact Ev.pos rfl (Ev.neg (by decide) (bb_end n i hn))
end Go.Proofs.Ytbblpddbkdiagaa.Pure
