/- Lyndon words, as plain Lean: the order of lists, and what bytes.Compare and lyndon.Is answer. -/
import Derived.Test.YtkjhddjenkocjaaPLLon
import Derived.Test.YtkjhddjenkocjaaGL1
namespace Go.Proofs.Ytkjhddjenkocjaa.PureL
set_option linter.unusedVariables false
set_option linter.unusedSimpArgs false
open Go.RowKit Go.Proofs.Ytkjhddjenkocjaa.GL Go.Proofs.YtkjhddjenkocjaaW.PrintWords Go.Proofs.YtkjhddjenkocjaaW.PrintLast
theorem ll_irrefl : ∀ a : List Int, ¬ a < a
  | [], h => List.not_lt_nil _ h
  | a :: ta, h => by
    rw [List.cons_lt_cons_iff] at h
    rcases h with h | ⟨_, h⟩
    · omega
    · exact ll_irrefl ta h
theorem ll_trans : ∀ {a b c : List Int}, a < b → b < c → a < c
  | _, _, [], _, h => absurd h (List.not_lt_nil _)
  | _, [], _ :: _, h, _ => absurd h (List.not_lt_nil _)
  | [], _ :: _, c :: tc, _, _ => List.nil_lt_cons c tc
  | a :: ta, b :: tb, c :: tc, h, h' => by
    rw [List.cons_lt_cons_iff] at h h' ⊢
    rcases h with h | ⟨h1, h2⟩
    · rcases h' with h' | ⟨h3, h4⟩
      · left; omega
      · left; omega
    · rcases h' with h' | ⟨h3, h4⟩
      · left; omega
      · right; exact ⟨by omega, ll_trans h2 h4⟩
theorem ll_tri : ∀ a b : List Int, a < b ∨ a = b ∨ b < a
  | [], [] => Or.inr (Or.inl rfl)
  | [], b :: tb => Or.inl (List.nil_lt_cons b tb)
  | a :: ta, [] => Or.inr (Or.inr (List.nil_lt_cons a ta))
  | a :: ta, b :: tb => by
    rw [List.cons_lt_cons_iff, List.cons_lt_cons_iff]
    rcases Int.lt_trichotomy a b with h | h | h
    · exact Or.inl (Or.inl h)
    · subst h
      rcases ll_tri ta tb with h | h | h
      · exact Or.inl (Or.inr ⟨rfl, h⟩)
      · exact Or.inr (Or.inl (by rw [h]))
      · exact Or.inr (Or.inr (Or.inr ⟨rfl, h⟩))
    · exact Or.inr (Or.inr (Or.inl h))
theorem ll_pre : ∀ (a s : List Int), s ≠ [] → a < a ++ s
  | [], [], h => absurd rfl h
  | [], s :: ss, _ => List.nil_lt_cons s ss
  | a :: ta, s, h => by
    rw [List.cons_append, List.cons_lt_cons_iff]
    exact Or.inr ⟨rfl, ll_pre ta s h⟩
theorem ll_app : ∀ (a s t : List Int), a ++ s < a ++ t ↔ s < t
  | [], _, _ => Iff.rfl
  | a :: ta, s, t => by
    rw [List.cons_append, List.cons_append, List.cons_lt_cons_iff]
    have := ll_app ta s t
    constructor
    · rintro (h | ⟨_, h⟩)
      · omega
      · exact this.1 h
    · intro h; exact Or.inr ⟨rfl, this.2 h⟩
/-- Less: by a beginning, or by a letter. -/
theorem ll_cases : ∀ {a b : List Int}, a < b → (∃ s, s ≠ [] ∧ b = a ++ s) ∨ (∀ s t, a ++ s < b ++ t)
  | _, [], h => absurd h (List.not_lt_nil _)
  | [], b :: tb, _ => Or.inl ⟨b :: tb, by simp, rfl⟩
  | a :: ta, b :: tb, h => by
    rw [List.cons_lt_cons_iff] at h
    rcases h with h | ⟨h1, h2⟩
    · right; intro s t
      rw [List.cons_append, List.cons_append, List.cons_lt_cons_iff]
      exact Or.inl h
    · subst h1
      rcases ll_cases h2 with ⟨s, h3, h4⟩ | h3
      · exact Or.inl ⟨s, h3, by rw [h4]; rfl⟩
      · right; intro s t
        rw [List.cons_append, List.cons_append, List.cons_lt_cons_iff]
        exact Or.inr ⟨rfl, h3 s t⟩
theorem ll_mis {a b : List Int} (s t : List Int) (h : a < b) (hl : b.length ≤ a.length) : a ++ s < b ++ t := by
  rcases ll_cases h with ⟨x, h1, h2⟩ | h1
  · rw [h2] at hl
    have : x = [] := List.eq_nil_of_length_eq_zero (by simp at hl; omega)
    exact absurd this h1
  · exact h1 s t
theorem ub_lt {a b : Int} (ha : 0 ≤ a ∧ a ≤ 255) (hb : 0 ≤ b ∧ b ≤ 255) : UInt8.ofNat a.toNat < UInt8.ofNat b.toNat ↔ a < b := by
  rw [UInt8.lt_iff_toNat_lt]
  simp only [UInt8.toNat_ofNat']
  omega
theorem cmp_lt : ∀ {a b : List Int}, isB a → isB b → (Lib.compareBytes (a.map fun n => UInt8.ofNat n.toNat) (b.map fun n => UInt8.ofNat n.toNat) < 0 ↔ a < b)
  | [], [], _, _ => by simp [Lib.compareBytes, ll_irrefl]
  | [], b :: tb, _, _ => by simp [Lib.compareBytes]
  | a :: ta, [], _, _ => by simp [Lib.compareBytes]
  | a :: ta, b :: tb, ha, hb => by
    have ha' := ha a List.mem_cons_self
    have hb' := hb b List.mem_cons_self
    have ih := cmp_lt (a := ta) (b := tb) (fun x hx => ha x (List.mem_cons_of_mem _ hx)) (fun x hx => hb x (List.mem_cons_of_mem _ hx))
    rw [List.map_cons, List.map_cons, Lib.compareBytes, List.cons_lt_cons_iff]
    by_cases c : a < b
    · rw [if_pos ((ub_lt ha' hb').2 c)]; simp [c]
    · rw [if_neg (fun h => c ((ub_lt ha' hb').1 h))]
      by_cases c2 : b < a
      · rw [if_pos ((ub_lt hb' ha').2 c2)]
        constructor
        · intro h; omega
        · rintro (h | ⟨h, _⟩) <;> omega
      · rw [if_neg (fun h => c2 ((ub_lt hb' ha').1 h)), ih]
        constructor
        · intro h; exact Or.inr ⟨by omega, h⟩
        · rintro (h | ⟨_, h⟩)
          · omega
          · exact h
theorem compare_spec {a b : List Int} (ha : isB a) (hb : isB b) : ∃ c, bytes_Compare.f a b = some c ∧ (c < 0 ↔ a < b) := by
  refine ⟨_, rfl, ?_⟩
  have e : ∀ l : List Int, (strOfNums l).data.toList = l.map fun n => UInt8.ofNat n.toNat := fun l => by simp [strOfNums]
  rw [e, e]
  exact cmp_lt ha hb
def Lyn (w : List Int) : Prop := 0 < w.length ∧ ∀ j, 1 ≤ j → j < w.length → w < w.drop j
noncomputable def lynB (w : List Int) : Bool := @decide (Lyn w) (Classical.propDecidable _)
theorem lynB_iff (w : List Int) : lynB w = true ↔ Lyn w := by unfold lynB; simp
theorem lynB_no {w : List Int} (h : ¬ Lyn w) : lynB w = false := by rw [Bool.eq_false_iff]; exact fun c => h ((lynB_iff w).1 c)
theorem lynB_len {w : List Int} (h : ∀ j, 1 ≤ j → j < w.length → w < w.drop j) : decide ((w.length : Int) > 0) = lynB w := by
  rw [Bool.eq_iff_iff, lynB_iff, decide_eq_true_iff]
  exact ⟨fun c => ⟨by omega, h⟩, fun c => by have := c.1; omega⟩
theorem is_loop (w : List Int) (hl : w.length ≤ 60) (hb : isB w) : ∀ (d i : Nat), 1 ≤ i → (i + d = w.length ∨ d = 0 ∧ w.length ≤ i) → (∀ j, 1 ≤ j → j < i → j < w.length → w < w.drop j) → Ev (fun k => lyndon_Is.l0 k w (i : Int)) (lynB w, 0) := by
  intro d
  induction d with
  | zero =>
    intro i h1 hi h
    refine Ev.step (fun k => by rw [lyndon_Is.l0]) (Ev.neg (by omega) (Ev.eq (Ev.now _) ?_))
    rw [lynB_len fun j h2 h3 => h j h2 (by omega) h3]
  | succ d ih =>
    intro i h1 hi h
    have hi : i + (d + 1) = w.length := by omega
    refine Ev.step (fun k => by rw [lyndon_Is.l0]) (Ev.pos (by omega) (Ev.pos (by omega) (Ev.pos (by omega) ?_)))
    rw [Int.toNat_natCast, w64 (by omega) (by omega)]
    obtain ⟨c, e, hc⟩ := compare_spec hb (isB_drop hb i)
    refine Ev.bindc e ?_
    by_cases hlt : w < w.drop i
    · have := hc.2 hlt
      refine Ev.neg (by omega) (ih (i + 1) (by omega) (by omega) fun j h2 h3 h4 => ?_)
      rcases Nat.lt_or_ge j i with c | c
      · exact h j h2 c h4
      · obtain rfl : j = i := by omega
        exact hlt
    · have : ¬ c < 0 := fun x => hlt (hc.1 x)
      refine Ev.pos (by omega) (Ev.eq (Ev.now _) ?_)
      rw [lynB_no fun x => hlt (x.2 i h1 (by omega))]
theorem is_spec (w : List Int) (hb : isB w) : Ev (fun k => lyndon_Is.f k w) (if 60 < w.length then (false, 1) else (lynB w, 0)) := by
  unfold lyndon_Is.f
  by_cases h : 60 < w.length
  · rw [if_pos h]; exact Ev.pos (by omega) (Ev.now _)
  · rw [if_neg h]
    exact Ev.neg (by omega) (is_loop w (by omega) hb (w.length - 1) 1 (by omega) (by omega) fun j _ _ _ => by omega)
end Go.Proofs.Ytkjhddjenkocjaa.PureL
