/- Lyndon words, as plain Lean: what coppicerref.Less and coppicerref.Low answer; a low word has no border. -/
import Derived.Test.YtkjhddjenkocjaaPLLex
import Derived.Test.YtkjhddjenkocjaaGL3
namespace Go.Proofs.Ytkjhddjenkocjaa.PureL
set_option linter.unusedVariables false
set_option linter.unusedSimpArgs false
open Go.RowKit Go.Proofs.Ytkjhddjenkocjaa.GL Go.Proofs.YtkjhddjenkocjaaW.PrintWords Go.Proofs.YtkjhddjenkocjaaW.PrintLast
theorem less_loop (a b : List Int) (hl : a.length ≤ 1000) : ∀ (d i : Nat), i + d = a.length → Ev (fun k => coppicerref_Less.l0 k a b (i : Int)) (decide (a.drop i < b.drop i)) := by
  intro d
  induction d with
  | zero =>
    intro i hi
    refine Ev.step (fun k => by rw [coppicerref_Less.l0]) (Ev.neg (by omega) (Ev.step (fun k => by rw [coppicerref_Less.j1]) (Ev.neg (by decide) (Ev.eq (Ev.now _) ?_))))
    rw [decide_eq_decide, List.drop_eq_nil_of_le (by omega : a.length ≤ i)]
    constructor
    · intro h
      rw [List.drop_eq_getElem_cons (by omega : i < b.length)]
      exact List.nil_lt_cons _ _
    · intro h
      rcases Nat.lt_or_ge i b.length with c | c
      · omega
      · rw [List.drop_eq_nil_of_le c] at h; exact absurd h (List.not_lt_nil _)
  | succ d ih =>
    intro i hi
    refine Ev.step (fun k => by rw [coppicerref_Less.l0]) (Ev.pos (by omega) (Ev.step (fun k => by rw [coppicerref_Less.j1]) ?_))
    rcases Nat.lt_or_ge i b.length with c | c
    · refine Ev.pos (by rw [decide_eq_true_iff]; omega) (Ev.pos (by omega) (Ev.pos (by omega) (Ev.pos (by omega) ?_)))
      have ha : a[i]'(by omega) = a.getD i 0 := by simp [List.getD_eq_getElem?_getD, List.getElem?_eq_getElem (by omega : i < a.length)]
      have hb : b[i]'(by omega) = b.getD i 0 := by simp [List.getD_eq_getElem?_getD, List.getElem?_eq_getElem (by omega : i < b.length)]
      rw [List.drop_eq_getElem_cons (by omega : i < a.length), List.drop_eq_getElem_cons (by omega : i < b.length), ha, hb, rd_nat, rd_nat, w64 (by omega) (by omega)]
      by_cases e : a.getD i 0 = b.getD i 0
      · refine Ev.pos e (Ev.eq (ih (i + 1) (by omega)) ?_)
        rw [decide_eq_decide, List.cons_lt_cons_iff, e]
        constructor
        · intro h; exact Or.inr ⟨rfl, h⟩
        · rintro (h | ⟨_, h⟩)
          · omega
          · exact h
      · refine Ev.neg e (Ev.eq (Ev.now _) ?_)
        rw [decide_eq_decide, List.cons_lt_cons_iff]
        constructor
        · intro h; exact Or.inl h
        · rintro (h | ⟨h, _⟩)
          · exact h
          · exact absurd h e
    · refine Ev.neg (by rw [decide_eq_true_iff]; omega) (Ev.eq (Ev.now _) ?_)
      rw [decide_eq_decide, List.drop_eq_nil_of_le c]
      exact ⟨fun h => by omega, fun h => absurd h (List.not_lt_nil _)⟩
theorem less_spec (a b : List Int) (hl : a.length ≤ 1000) : Ev (fun k => coppicerref_Less.f k a b) (decide (a < b)) := less_loop a b hl a.length 0 (by omega)
theorem low_loop (w : List Int) (hl : w.length ≤ 60) : ∀ (d i : Nat), 1 ≤ i → (i + d = w.length ∨ d = 0 ∧ w.length ≤ i) → (∀ j, 1 ≤ j → j < i → j < w.length → w < w.drop j) → Ev (fun k => coppicerref_Low.l0 k w (i : Int)) (lynB w) := by
  intro d
  induction d with
  | zero =>
    intro i h1 hi h
    refine Ev.step (fun k => by rw [coppicerref_Low.l0]) (Ev.neg (by omega) (Ev.eq (Ev.now _) ?_))
    rw [lynB_len fun j h2 h3 => h j h2 (by omega) h3]
  | succ d ih =>
    intro i h1 hi h
    have hi : i + (d + 1) = w.length := by omega
    refine Ev.step (fun k => by rw [coppicerref_Low.l0]) (Ev.pos (by omega) (Ev.pos (by omega) (Ev.pos (by omega) ?_)))
    rw [Int.toNat_natCast, w64 (by omega) (by omega)]
    refine Ev.bind (less_spec _ _ (by omega)) ?_
    by_cases hlt : w < w.drop i
    · refine Ev.pos (decide_eq_true hlt) (ih (i + 1) (by omega) (by omega) fun j h2 h3 h4 => ?_)
      rcases Nat.lt_or_ge j i with c | c
      · exact h j h2 c h4
      · obtain rfl : j = i := by omega
        exact hlt
    · refine Ev.neg (by rw [decide_eq_true_iff]; exact hlt) (Ev.eq (Ev.now _) ?_)
      rw [lynB_no fun x => hlt (x.2 i h1 (by omega))]
theorem low_spec (w : List Int) (hl : w.length ≤ 60) : Ev (fun k => coppicerref_Low.f k w) (lynB w) := by
  unfold coppicerref_Low.f
  exact low_loop w hl (w.length - 1) 1 (by omega) (by omega) fun j _ _ _ => by omega
/-- The first k letters end the first i, k < i. -/
def bd (w : List Int) (k i : Nat) : Prop := k < i ∧ ∀ s, s < k → w.getD s 0 = w.getD (i - k + s) 0
/-- A low word has no border. -/
theorem lyn_noborder {w : List Int} (h : Lyn w) {k : Nat} (hk : bd w k w.length) : k = 0 := by
  rcases Nat.eq_zero_or_pos k with h0 | h0
  · exact h0
  · obtain ⟨h1, h2⟩ := hk
    have h3 := h.2 (w.length - k) (by omega) (by omega)
    have e : w.drop (w.length - k) = w.take k := by
      refine List.ext_getElem (by simp; omega) fun i h4 h5 => ?_
      have hi : i < k := by simp at h5; omega
      have := h2 i hi
      simp only [List.getD_eq_getElem?_getD, List.getElem?_eq_getElem (show i < w.length by omega), List.getElem?_eq_getElem (show w.length - k + i < w.length by omega), Option.getD_some] at this
      simp only [List.getElem_drop, List.getElem_take]
      exact this.symm
    rw [e] at h3
    have h4 := ll_pre (w.take k) (w.drop k) (by intro c; have := congrArg List.length c; simp at this; omega)
    rw [List.take_append_drop] at h4
    exact absurd (ll_trans h3 h4) (ll_irrefl _)
end Go.Proofs.Ytkjhddjenkocjaa.PureL
