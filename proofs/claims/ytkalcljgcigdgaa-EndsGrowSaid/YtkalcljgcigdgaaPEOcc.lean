/- ends.Count over lists: how often a word stands in another one, in plain Lean. Conditions: none. -/
import Derived.Test.YtkalcljgcigdgaaPEEnds
import Derived.Test.YtkalcljgcigdgaaPEFind
import Derived.Test.YtkalcljgcigdgaaGE4
import Derived.Test.YtkalcljgcigdgaaGE1
namespace Go.Proofs.Ytkalcljgcigdgaa.PEM
set_option linter.unusedVariables false
set_option linter.unusedSimpArgs false
open Go.RowKit Go.Proofs.Ytkalcljgcigdgaa.GE Go.Proofs.YtkalcljgcigdgaaW.PrintWords Go.Proofs.YtkalcljgcigdgaaW.PrintLast Go.Proofs.YtkalcljgcigdgaaW.PrintMore

def any60 (xs : List (List Int)) : Bool := xs.any fun x => decide (60 < x.length)
theorem lon_loop (xs : List (List Int)) (hl : xs.length ≤ 100) : ∀ (d i : Nat), i + d = xs.length → Ev (fun k => coppicerkeep_long.l0 k xs (xs.length : Int) (i : Int)) (any60 (xs.drop i)) := by
  intro d
  induction d with
  | zero =>
    intro i hi
    refine Ev.step (fun k => by rw [coppicerkeep_long.l0]) (Ev.neg (by omega) (Ev.eq (Ev.now _) ?_))
    rw [List.drop_eq_nil_of_le (by omega)]; rfl
  | succ d ih =>
    intro i hi
    refine Ev.step (fun k => by rw [coppicerkeep_long.l0]) (Ev.pos (by omega) (Ev.pos (by omega) (Ev.pos (by omega) ?_)))
    have e : rd_L1 xs (i : Int) = xs[i]'(by omega) := by simp [rd_L1, List.getD_eq_getElem?_getD, List.getElem?_eq_getElem (by omega : i < xs.length)]
    rw [e, List.drop_eq_getElem_cons (by omega : i < xs.length), w64 (by omega) (by omega)]
    by_cases h : 60 < (xs[i]'(by omega)).length
    · exact Ev.pos (by omega) (Ev.eq (Ev.now _) (by simp only [any60, List.any_cons]; rw [decide_eq_true h, Bool.true_or]))
    · exact Ev.neg (by omega) (Ev.eq (ih (i + 1) (by omega)) (by simp only [any60, List.any_cons]; rw [decide_eq_false h, Bool.false_or]))
theorem lon_spec (xs : List (List Int)) (hl : xs.length ≤ 100) : Ev (fun k => coppicerkeep_long.f k xs) (any60 xs) := by
  unfold coppicerkeep_long.f
  exact lon_loop xs hl xs.length 0 (by omega)

/-- The binary search finds the first place that answers yes. -/
theorem srch_spec (p : Int → Bool) (n : Nat) (hm : ∀ h h' : Nat, h ≤ h' → h' < n → p (h : Int) = true → p (h' : Int) = true) : ∀ (d i j : Nat), j - i ≤ d → i ≤ j → j ≤ n → (∀ h : Nat, h < i → p (h : Int) = false) → (∀ h : Nat, j ≤ h → h < n → p (h : Int) = true) →
    ∃ a : Nat, a ≤ n ∧ (∀ h : Nat, h < a → p (h : Int) = false) ∧ (∀ h : Nat, a ≤ h → h < n → p (h : Int) = true) ∧ Ev (fun k => ends_Count.srch p k (i : Int) (j : Int)) (a : Int) := by
  intro d
  induction d with
  | zero =>
    intro i j hd hij hj hlo hhi
    obtain rfl : i = j := by omega
    exact ⟨i, hj, hlo, hhi, Ev.step (fun k => by rw [ends_Count.srch]) (Ev.neg (by omega) (Ev.now _))⟩
  | succ d ih =>
    intro i j hd hij hj hlo hhi
    by_cases c : i < j
    · have e : ((i : Int) + (j : Int)) / 2 = (((i + j) / 2 : Nat) : Int) := by omega
      by_cases hp : p (((i + j) / 2 : Nat) : Int) = true
      · obtain ⟨a, h1, h2, h3, h4⟩ := ih i ((i + j) / 2) (by omega) (by omega) (by omega) hlo (fun h hh hn => hm _ h hh hn hp)
        refine ⟨a, h1, h2, h3, Ev.step (fun k => by rw [ends_Count.srch]) (Ev.pos (by omega) ?_)⟩
        rw [e]
        exact Ev.pos hp h4
      · have hp' : p (((i + j) / 2 : Nat) : Int) = false := by simpa using hp
        obtain ⟨a, h1, h2, h3, h4⟩ := ih ((i + j) / 2 + 1) j (by omega) (by omega) hj (fun h hh => by
          cases hx : p (h : Int) with
          | false => rfl
          | true => exact absurd (hm h ((i + j) / 2) (by omega) (by omega) hx) hp) hhi
        refine ⟨a, h1, h2, h3, Ev.step (fun k => by rw [ends_Count.srch]) (Ev.pos (by omega) ?_)⟩
        rw [e]
        exact Ev.neg hp h4
    · obtain rfl : i = j := by omega
      exact ⟨i, hj, hlo, hhi, Ev.step (fun k => by rw [ends_Count.srch]) (Ev.neg (by omega) (Ev.now _))⟩
theorem lex_take : ∀ {x y : List Int} (m : Nat), lexL x y = true → x.take m = y.take m ∨ lexL (x.take m) (y.take m) = true
  | _, _, 0, _ => .inl rfl
  | _, [], _ + 1, h => by rw [lexL_nil] at h; cases h
  | [], y :: b, m + 1, _ => .inr rfl
  | x :: a, y :: b, m + 1, h => by
    simp only [lexL, Bool.or_eq_true, decide_eq_true_iff, Bool.and_eq_true, beq_iff_eq] at h
    rcases h with h | ⟨rfl, h⟩
    · right
      simp only [List.take_succ_cons, lexL, Bool.or_eq_true, decide_eq_true_iff]
      exact .inl h
    · rcases lex_take m h with h | h
      · left; rw [List.take_succ_cons, List.take_succ_cons, h]
      · right; rw [List.take_succ_cons, List.take_succ_cons, lexL_cons]; exact h
theorem bytesL_take {w : List Int} (h : BytesL w) (n : Nat) : BytesL (w.take n) := fun x hx => h x (List.mem_of_mem_take hx)
theorem bytesL_drop {w : List Int} (h : BytesL w) (n : Nat) : BytesL (w.drop n) := fun x hx => h x (List.mem_of_mem_drop hx)
theorem cut_eq (w u l : List Int) (h : Nat) : ends_Count.cut w u l (h : Int) = (w.drop (l.getD h 0).toNat).take u.length := by unfold ends_Count.cut; rw [rd_nat]
theorem cmp_neg {w u l : List Int} (hw : BytesL w) (hu : BytesL u) (h : Nat) : ends_Count.cmp w u l (h : Int) < 0 ↔ lexL (ends_Count.cut w u l (h : Int)) u = true := by
  unfold ends_Count.cmp
  have hb : BytesL (ends_Count.cut w u l (h : Int)) := by rw [cut_eq]; exact bytesL_take (bytesL_drop hw _) _
  have := cmp_lex hb hu
  simpa [strOfNums] using this
theorem cmp_pos {w u l : List Int} (hw : BytesL w) (hu : BytesL u) (h : Nat) : ends_Count.cmp w u l (h : Int) > 0 ↔ lexL u (ends_Count.cut w u l (h : Int)) = true := by
  unfold ends_Count.cmp
  have hb : BytesL (ends_Count.cut w u l (h : Int)) := by rw [cut_eq]; exact bytesL_take (bytesL_drop hw _) _
  have h1 := cmp_lex hu hb
  have h2 := ends_order.cb_neg (strOfNums (ends_Count.cut w u l (h : Int))).data.toList (strOfNums u).data.toList
  have h3 : Lib.compareBytes (strOfNums u).data.toList (strOfNums (ends_Count.cut w u l (h : Int))).data.toList < 0 ↔ lexL u (ends_Count.cut w u l (h : Int)) = true := by simpa [strOfNums] using h1
  rw [← h3, h2]
  omega
theorem filter_range {Q : Int → Bool} : ∀ (l : List Int) (a b : Nat), a ≤ b → b ≤ l.length → (∀ h : Nat, h < l.length → (Q (l.getD h 0) = true ↔ a ≤ h ∧ h < b)) → (l.filter Q).length = b - a
  | [], a, b, h1, h2, _ => by simp at h2 ⊢; omega
  | x :: l, a, b, h1, h2, h => by
    have h0 := h 0 (by simp)
    have hr : ∀ k : Nat, k < l.length → (Q (l.getD k 0) = true ↔ a ≤ k + 1 ∧ k + 1 < b) := fun k hk => by
      have := h (k + 1) (by simp; omega)
      simpa using this
    have hx : (x :: l).getD 0 0 = x := rfl
    rw [hx] at h0
    simp only [List.length_cons] at h2
    cases a with
    | zero =>
      cases b with
      | zero =>
        have hq : Q x = false := by
          cases hc : Q x with
          | false => rfl
          | true => have := h0.1 hc; omega
        have := filter_range l 0 0 (Nat.le_refl _) (by omega) (fun k hk => by rw [hr k hk]; omega)
        rw [List.filter_cons, hq]
        simpa using this
      | succ b =>
        have hq : Q x = true := h0.2 ⟨by omega, by omega⟩
        have := filter_range l 0 b (by omega) (by omega) (fun k hk => by rw [hr k hk]; omega)
        rw [List.filter_cons, if_pos hq, List.length_cons, this]
        omega
    | succ a =>
      have hq : Q x = false := by
        cases hc : Q x with
        | false => rfl
        | true => have := h0.1 hc; omega
      have := filter_range l a (b - 1) (by omega) (by omega) (fun k hk => by rw [hr k hk]; omega)
      rw [List.filter_cons, hq]
      simp only [Bool.false_eq_true, if_false]
      rw [this]; omega
theorem order_perm (w : List Int) : ((ends_order.fin w).map fun i => ((i.val : Nat) : Int)).Perm ((List.range w.length).map fun (p : Nat) => (p : Int)) := by
  have h1 : (ends_order.fin w).Perm (List.finRange w.length) := by unfold ends_order.fin; exact List.mergeSort_perm _ _
  have h2 := h1.map (fun i => ((i.val : Nat) : Int))
  have e : (List.finRange w.length).map (fun i => ((i.val : Nat) : Int)) = (List.range w.length).map fun (p : Nat) => (p : Int) := by
    apply List.ext_getElem
    · simp
    · intro i h1 h2
      simp
  rwa [e] at h2
/-- How often u stands in w, at places ahead of the end. -/
def many (w u : List Int) : Nat := ((List.range w.length).filter (occB u w)).length
theorem order_some {w : List Int} (h : w.length ≤ 60) : ends_order.f w = some ((ends_order.fin w).map fun i => ((i.val : Nat) : Int)) := by unfold ends_order.f; rw [if_pos (by omega)]
theorem count_spec {w u : List Int} (hw : BytesL w) (hu : BytesL u) : Ev (fun k => ends_Count.f k w u) (if 60 < w.length ∨ 60 < u.length then (0, 1) else if u = [] then ((w.length : Int) + 1, 0) else ((many w u : Int), 0)) := by
  unfold ends_Count.f
  by_cases h1 : 60 < w.length
  · rw [if_pos (.inl h1)]; exact Ev.pos h1 (Ev.now _)
  by_cases h2 : 60 < u.length
  · rw [if_pos (.inr h2)]; exact Ev.neg h1 (Ev.pos h2 (Ev.now _))
  rw [if_neg (fun h => h.elim h1 h2)]
  by_cases h3 : u = []
  · subst h3
    rw [if_pos rfl]
    refine Ev.neg h1 (Ev.neg h2 (Ev.pos rfl ?_))
    rw [w64 (by omega) (by omega)]
    exact Ev.now _
  rw [if_neg h3]
  have hu0 : 0 < u.length := List.length_pos_iff.2 h3
  have hO := fin_ord hw
  generalize hl : ((ends_order.fin w).map fun i => ((i.val : Nat) : Int)) = l at hO
  have hlen := hO.len
  have mono : ∀ h h' : Nat, h ≤ h' → h' < l.length → ends_Count.cut w u l (h : Int) = ends_Count.cut w u l (h' : Int) ∨ lexL (ends_Count.cut w u l (h : Int)) (ends_Count.cut w u l (h' : Int)) = true := by
    intro h h' hh hn
    rcases Nat.lt_or_ge h h' with c | c
    · rw [cut_eq, cut_eq]
      exact lex_take _ (hO.asc h h' c (by omega))
    · obtain rfl : h = h' := by omega
      exact .inl rfl
  have m1 : ∀ h h' : Nat, h ≤ h' → h' < l.length → decide (ends_Count.cmp w u l (h : Int) ≥ 0) = true → decide (ends_Count.cmp w u l (h' : Int) ≥ 0) = true := by
    intro h h' hh hn hp
    rw [decide_eq_true_iff] at hp ⊢
    have c1 := cmp_neg hw hu (l := l) h
    have c2 := cmp_neg hw hu (l := l) h'
    rcases Int.lt_or_le (ends_Count.cmp w u l (h' : Int)) 0 with c | c
    · exfalso
      have c3 := c2.1 c
      rcases mono h h' hh hn with e | e
      · rw [← e] at c3; have := c1.2 c3; omega
      · have := c1.2 (lexL_trans e c3); omega
    · exact c
  have m2 : ∀ h h' : Nat, h ≤ h' → h' < l.length → decide (ends_Count.cmp w u l (h : Int) > 0) = true → decide (ends_Count.cmp w u l (h' : Int) > 0) = true := by
    intro h h' hh hn hp
    rw [decide_eq_true_iff] at hp ⊢
    have c1 := (cmp_pos hw hu (l := l) h).1 hp
    refine (cmp_pos hw hu (l := l) h').2 ?_
    rcases mono h h' hh hn with e | e
    · rw [← e]; exact c1
    · exact lexL_trans c1 e
  obtain ⟨a, a1, a2, a3, a4⟩ := srch_spec (fun h => decide (ends_Count.cmp w u l h ≥ 0)) l.length m1 l.length 0 l.length (by omega) (by omega) (Nat.le_refl _) (fun h hh => by omega) (fun h hh hn => by omega)
  obtain ⟨b, b1, b2, b3, b4⟩ := srch_spec (fun h => decide (ends_Count.cmp w u l h > 0)) l.length m2 l.length 0 l.length (by omega) (by omega) (Nat.le_refl _) (fun h hh => by omega) (fun h hh hn => by omega)
  have hab : a ≤ b := by
    rcases Nat.lt_or_ge b a with c | c
    · exfalso
      have h5 := b3 b (Nat.le_refl _) (by omega)
      have h6 := a2 b c
      rw [decide_eq_true_iff] at h5
      rw [decide_eq_false_iff_not] at h6
      omega
    · exact c
  have hQ : ∀ h : Nat, h < l.length → (occB u w (l.getD h 0).toNat = true ↔ a ≤ h ∧ h < b) := by
    intro h hh
    have e : occB u w (l.getD h 0).toNat = true ↔ ends_Count.cut w u l (h : Int) = u := by rw [cut_eq]; unfold occB; rw [decide_eq_true_iff]
    have c1 := cmp_neg hw hu (l := l) h
    have c2 := cmp_pos hw hu (l := l) h
    rw [e]
    constructor
    · intro hc
      rw [hc, lexL_irrefl] at c1 c2
      have n1 : ¬ ends_Count.cmp w u l (h : Int) < 0 := fun k => by have := c1.1 k; cases this
      have n2 : ¬ ends_Count.cmp w u l (h : Int) > 0 := fun k => by have := c2.1 k; cases this
      refine ⟨?_, ?_⟩
      · rcases Nat.lt_or_ge h a with c | c
        · have := a2 h c; rw [decide_eq_false_iff_not] at this; omega
        · exact c
      · rcases Nat.lt_or_ge h b with c | c
        · exact c
        · have := b3 h c hh; rw [decide_eq_true_iff] at this; omega
    · rintro ⟨ha, hb⟩
      have k1 := a3 h ha hh
      have k2 := b2 h hb
      rw [decide_eq_true_iff] at k1
      rw [decide_eq_false_iff_not] at k2
      refine lexL_total ?_ ?_
      · cases hc : lexL (ends_Count.cut w u l (h : Int)) u with
        | false => rfl
        | true => have := c1.2 hc; omega
      · cases hc : lexL u (ends_Count.cut w u l (h : Int)) with
        | false => rfl
        | true => have := c2.2 hc; omega
  have hcount := filter_range (Q := fun x => occB u w x.toNat) l a b hab b1 hQ
  have hperm : (l.filter fun x => occB u w x.toNat).length = many w u := by
    have h5 := (order_perm w).filter (fun x => occB u w x.toNat)
    rw [hl] at h5
    rw [h5.length_eq]
    unfold many
    rw [List.filter_map, List.length_map]
    congr 1
  refine Ev.neg h1 (Ev.neg h2 (Ev.neg (by omega) (Ev.bindc (order_some (by omega)) ?_)))
  rw [hl]
  refine Ev.bind a4 (Ev.bind b4 (Ev.eq (Ev.now _) ?_))
  rw [w64 (by omega) (by omega)]
  have e : ((b : Int) - (a : Int)) = (many w u : Int) := by omega
  rw [e]
/-- All places are those that border.Find finds. -/
theorem occs_many {w u : List Int} (hu : u ≠ []) : (occs u w w.length).length = many w u := by
  have hu0 : 0 < u.length := List.length_pos_iff.2 hu
  unfold occs many
  rw [List.length_map]
  have e : List.range w.length = List.range (w.length + 1 - u.length) ++ List.range' (w.length + 1 - u.length) (w.length - (w.length + 1 - u.length)) := by
    rw [List.range_eq_range', List.range_eq_range']
    have := List.range'_append (s := 0) (m := w.length + 1 - u.length) (n := w.length - (w.length + 1 - u.length)) (step := 1)
    rw [Nat.one_mul, Nat.zero_add] at this
    rw [this]
    congr 1
    omega
  rw [e, List.filter_append, List.length_append]
  have z : (List.range' (w.length + 1 - u.length) (w.length - (w.length + 1 - u.length))).filter (occB u w) = [] := by
    rw [List.filter_eq_nil_iff]
    intro p hp
    rw [List.mem_range'_1] at hp
    intro h
    rcases occ_iff.1 h with ⟨h1, _⟩ | h1
    · omega
    · exact hu h1
  rw [z]; simp

end Go.Proofs.Ytkalcljgcigdgaa.PEM
