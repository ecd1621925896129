/- Lyndon words, as plain Lean: what coppicerref.Low, coppicerref.Less and border.Borders answer; what low words have. -/
import Derived.Test.YtbblpddbkdiagaaPureLex
import Derived.Test.YtbblpddbkdiagaaGA10
namespace Go.Proofs.Ytbblpddbkdiagaa.PureL
set_option linter.unusedVariables false
set_option linter.unusedSimpArgs false
open Go.RowKit Go.Proofs.Ytbblpddbkdiagaa.GA Go.Proofs.YtbblpddbkdiagaaW.PrintWords Go.Proofs.YtbblpddbkdiagaaW.PrintLast

theorem less_loop (a b : List Int) (hl : a.length ≤ 1000) : ∀ (d i : Nat), i + d = a.length → Ev (fun k => coppicerref_Less.l0 k a b (i : Int)) (decide (a.drop i < b.drop i)) := by
  intro d
  induction d with
  | zero =>
    intro i hi
    refine Ev.step (fun k => by rw [coppicerref_Less.l0]) (Ev.neg (by omega) (Ev.step (fun k => by rw [coppicerref_Less.j1]) (Ev.neg (by decide) (Ev.eq (Ev.now _) ?_))))
    rw [decide_eq_decide, List.drop_eq_nil_of_le (by omega : a.length ≤ i)]
    constructor
    · intro h
      rw [List.drop_eq_getElem_cons (by omega : i < b.length)]
      exact List.nil_lt_cons _ _
    · intro h
      rcases Nat.lt_or_ge i b.length with c | c
      · omega
      · rw [List.drop_eq_nil_of_le c] at h; exact absurd h (List.not_lt_nil _)
  | succ d ih =>
    intro i hi
    refine Ev.step (fun k => by rw [coppicerref_Less.l0]) (Ev.pos (by omega) (Ev.step (fun k => by rw [coppicerref_Less.j1]) ?_))
    rcases Nat.lt_or_ge i b.length with c | c
    · refine Ev.pos (by rw [decide_eq_true_iff]; omega) (Ev.pos (by omega) (Ev.pos (by omega) (Ev.pos (by omega) ?_)))
      have ha : a[i]'(by omega) = a.getD i 0 := by simp [List.getD_eq_getElem?_getD, List.getElem?_eq_getElem (by omega : i < a.length)]
      have hb : b[i]'(by omega) = b.getD i 0 := by simp [List.getD_eq_getElem?_getD, List.getElem?_eq_getElem (by omega : i < b.length)]
      rw [List.drop_eq_getElem_cons (by omega : i < a.length), List.drop_eq_getElem_cons (by omega : i < b.length), ha, hb, rd_nat, rd_nat, w64 (by omega) (by omega)]
      by_cases e : a.getD i 0 = b.getD i 0
      · refine Ev.pos e (Ev.eq (ih (i + 1) (by omega)) ?_)
        rw [decide_eq_decide, List.cons_lt_cons_iff, e]
        constructor
        · intro h; exact Or.inr ⟨rfl, h⟩
        · rintro (h | ⟨_, h⟩)
          · omega
          · exact h
      · refine Ev.neg e (Ev.eq (Ev.now _) ?_)
        rw [decide_eq_decide, List.cons_lt_cons_iff]
        constructor
        · intro h; exact Or.inl h
        · rintro (h | ⟨h, _⟩)
          · exact h
          · exact absurd h e
    · refine Ev.neg (by rw [decide_eq_true_iff]; omega) (Ev.eq (Ev.now _) ?_)
      rw [decide_eq_decide, List.drop_eq_nil_of_le c]
      exact ⟨fun h => by omega, fun h => absurd h (List.not_lt_nil _)⟩
theorem less_spec (a b : List Int) (hl : a.length ≤ 1000) : Ev (fun k => coppicerref_Less.f k a b) (decide (a < b)) := less_loop a b hl a.length 0 (by omega)
theorem low_loop (w : List Int) (hl : w.length ≤ 60) : ∀ (d i : Nat), 1 ≤ i → (i + d = w.length ∨ d = 0 ∧ w.length ≤ i) → (∀ j, 1 ≤ j → j < i → j < w.length → w < w.drop j) → Ev (fun k => coppicerref_Low.l0 k w (i : Int)) (lynB w) := by
  intro d
  induction d with
  | zero =>
    intro i h1 hi h
    refine Ev.step (fun k => by rw [coppicerref_Low.l0]) (Ev.neg (by omega) (Ev.eq (Ev.now _) ?_))
    rw [lynB_len fun j h2 h3 => h j h2 (by omega) h3]
  | succ d ih =>
    intro i h1 hi h
    have hi : i + (d + 1) = w.length := by omega
    refine Ev.step (fun k => by rw [coppicerref_Low.l0]) (Ev.pos (by omega) (Ev.pos (by omega) (Ev.pos (by omega) ?_)))
    rw [Int.toNat_natCast, w64 (by omega) (by omega)]
    refine Ev.bind (less_spec _ _ (by omega)) ?_
    by_cases hlt : w < w.drop i
    · refine Ev.pos (decide_eq_true hlt) (ih (i + 1) (by omega) (by omega) fun j h2 h3 h4 => ?_)
      rcases Nat.lt_or_ge j i with c | c
      · exact h j h2 c h4
      · obtain rfl : j = i := by omega
        exact hlt
    · refine Ev.neg (by rw [decide_eq_true_iff]; exact hlt) (Ev.eq (Ev.now _) ?_)
      rw [lynB_no fun x => hlt (x.2 i h1 (by omega))]
theorem low_spec (w : List Int) (hl : w.length ≤ 60) : Ev (fun k => coppicerref_Low.f k w) (lynB w) := by
  unfold coppicerref_Low.f
  exact low_loop w hl (w.length - 1) 1 (by omega) (by omega) fun j _ _ _ => by omega
/-- The first k letters end the first i, k < i. -/
def bd (w : List Int) (k i : Nat) : Prop := k < i ∧ ∀ s, s < k → w.getD s 0 = w.getD (i - k + s) 0
def LB (w : List Int) (i k : Nat) : Prop := bd w k i ∧ ∀ k', bd w k' i → k' ≤ k
theorem bd_trans {w : List Int} {a b i : Nat} (h : bd w a b) (h' : bd w b i) : bd w a i := by
  obtain ⟨h1, h2⟩ := h
  obtain ⟨h3, h4⟩ := h'
  refine ⟨by omega, fun s hs => ?_⟩
  rw [h2 s hs, h4 (b - a + s) (by omega), show i - b + (b - a + s) = i - a + s by omega]
theorem bd_inner {w : List Int} {a b i : Nat} (h : bd w a i) (h' : bd w b i) (hab : a < b) : bd w a b := by
  obtain ⟨h1, h2⟩ := h
  obtain ⟨h3, h4⟩ := h'
  refine ⟨hab, fun s hs => ?_⟩
  rw [h2 s hs, h4 (b - a + s) (by omega), show i - b + (b - a + s) = i - a + s by omega]
theorem bd_succ {w : List Int} {m i : Nat} : bd w (m + 1) (i + 1) ↔ bd w m i ∧ w.getD m 0 = w.getD i 0 := by
  constructor
  · rintro ⟨h1, h2⟩
    refine ⟨⟨by omega, fun s hs => ?_⟩, ?_⟩
    · rw [h2 s (by omega), show i + 1 - (m + 1) + s = i - m + s by omega]
    · rw [h2 m (by omega), show i + 1 - (m + 1) + m = i by omega]
  · rintro ⟨⟨h1, h2⟩, h3⟩
    refine ⟨by omega, fun s hs => ?_⟩
    rw [show i + 1 - (m + 1) + s = i - m + s by omega]
    rcases Nat.lt_or_ge s m with c | c
    · exact h2 s c
    · obtain rfl : s = m := by omega
      rw [h3, show i - s + s = i by omega]
theorem next_spec (w known : List Int) (hl : w.length ≤ 60) (i : Nat) (hi : i < w.length) (hk : known.length = i) (hlb : ∀ t, 1 ≤ t → t ≤ i → ∃ k : Nat, known.getD (t - 1) 0 = k ∧ LB w t k) :
    ∀ (k : Nat), bd w k i → (∀ k', bd w k' i → w.getD k' 0 = w.getD i 0 → k' ≤ k) → ∃ r : Nat, LB w (i + 1) r ∧ Ev (fun n => border_next.l0 n w known (k : Int) (w.getD i 0)) (r : Int) := by
  intro k
  induction k using Nat.strongRecOn with
  | ind k ih =>
    intro hb hm
    have hki := hb.1
    by_cases c : w.getD k 0 = w.getD i 0
    · refine ⟨k + 1, ⟨bd_succ.2 ⟨hb, c⟩, fun k' h => ?_⟩, Ev.step (fun n => by rw [border_next.l0]) ?_⟩
      · cases k' with
        | zero => omega
        | succ m => obtain ⟨h1, h2⟩ := bd_succ.1 h; have := hm m h1 h2; omega
      · refine Ev.neg (by omega) ?_
        by_cases c0 : (k : Int) > 0
        · refine Ev.pos c0 (Ev.pos (by omega) (Ev.pos (by omega) (Ev.pos (by rw [rd_nat]; exact c) ?_)))
          rw [w64 (by omega) (by omega)]
          exact Ev.eq (Ev.now _) (by omega)
        · refine Ev.neg c0 (Ev.pos (by omega) (Ev.pos (by omega) (Ev.pos (by rw [rd_nat]; exact c) ?_)))
          rw [w64 (by omega) (by omega)]
          exact Ev.eq (Ev.now _) (by omega)
    · rcases Nat.eq_zero_or_pos k with rfl | hp
      · refine ⟨0, ⟨⟨by omega, fun s hs => by omega⟩, fun k' h => ?_⟩, Ev.step (fun n => by rw [border_next.l0]) ?_⟩
        · cases k' with
          | zero => omega
          | succ m =>
            obtain ⟨h1, h2⟩ := bd_succ.1 h
            have := hm m h1 h2
            obtain rfl : m = 0 := by omega
            exact absurd h2 c
        · refine Ev.neg (by omega) (Ev.neg (by omega) (Ev.pos (by omega) (Ev.pos (by omega) (Ev.neg (by rw [rd_nat]; exact c) (Ev.now _)))))
      · obtain ⟨j, e1, e2⟩ := hlb k hp (by omega)
        have hjk := e2.1.1
        obtain ⟨r, h1, h2⟩ := ih j hjk (bd_trans e2.1 hb) (fun k' h h' => by
          have h3 := hm k' h h'
          have h4 : k' ≠ k := fun e => c (by rw [← e]; exact h')
          exact e2.2 k' (bd_inner h hb (by omega)))
        refine ⟨r, h1, Ev.step (fun n => by rw [border_next.l0]) ?_⟩
        refine Ev.neg (by omega) (Ev.pos (by omega) (Ev.pos (by omega) (Ev.pos (by omega) (Ev.neg (by rw [rd_nat]; exact c) ?_))))
        rw [w64 (by omega) (by omega)]
        refine Ev.pos (by omega) (Ev.pos (by omega) ?_)
        rw [show (k : Int) - 1 = ((k - 1 : Nat) : Int) by omega, rd_nat, e1]
        exact h2
theorem borders_loop (w : List Int) (hl : w.length ≤ 60) : ∀ (d i : Nat) (acc : List Int), i + d = w.length → acc.length = i → (∀ t, 1 ≤ t → t ≤ i → ∃ k : Nat, acc.getD (t - 1) 0 = k ∧ LB w t k) →
    ∃ out : List Int, out.length = w.length ∧ (∀ t, 1 ≤ t → t ≤ w.length → ∃ k : Nat, out.getD (t - 1) 0 = k ∧ LB w t k) ∧ Ev (fun n => border_borders.l0 n w acc w (w.length : Int) (i : Int)) out := by
  intro d
  induction d with
  | zero =>
    intro i acc hi ha h
    obtain rfl : i = w.length := by omega
    exact ⟨acc, ha, h, Ev.step (fun n => by rw [border_borders.l0]) (Ev.neg (by omega) (Ev.now _))⟩
  | succ d ih =>
    intro i acc hi ha h
    have app : ∀ r : Nat, LB w (i + 1) r → ∀ t, 1 ≤ t → t ≤ i + 1 → ∃ k : Nat, (acc ++ [(r : Int)]).getD (t - 1) 0 = k ∧ LB w t k := by
      intro r hr t h1 h2
      rcases Nat.lt_or_ge i t with c | c
      · obtain rfl : t = i + 1 := by omega
        exact ⟨r, by simp [List.getD_eq_getElem?_getD, ← ha], hr⟩
      · obtain ⟨k, e1, e2⟩ := h t h1 c
        refine ⟨k, ?_, e2⟩
        rw [List.getD_eq_getElem?_getD, List.getElem?_append_left (by omega), ← List.getD_eq_getElem?_getD, e1]
    rcases Nat.eq_zero_or_pos i with rfl | hp
    · obtain ⟨out, h1, h2, h3⟩ := ih 1 (acc ++ [0]) (by omega) (by simp [ha]) (app 0 ⟨⟨by omega, fun s hs => by omega⟩, fun k' hk => by have := hk.1; omega⟩)
      refine ⟨out, h1, h2, Ev.step (fun n => by rw [border_borders.l0]) ?_⟩
      refine Ev.pos (by omega) (Ev.pos (by omega) (Ev.pos (by omega) (Ev.pos rfl (Ev.pos (by omega) ?_))))
      rw [w64 (by omega) (by omega)]
      exact h3
    · obtain ⟨k, e1, e2⟩ := h i hp (Nat.le_refl _)
      obtain ⟨r, g1, g2⟩ := next_spec w acc hl i (by omega) ha h k e2.1 (fun k' hk _ => e2.2 k' hk)
      obtain ⟨out, h1, h2, h3⟩ := ih (i + 1) (acc ++ [(r : Int)]) (by omega) (by simp [ha]) (app r g1)
      refine ⟨out, h1, h2, Ev.step (fun n => by rw [border_borders.l0]) ?_⟩
      refine Ev.pos (by omega) (Ev.pos (by omega) (Ev.pos (by omega) (Ev.neg (by omega) ?_)))
      rw [w64 (n := (i : Int) - 1) (by omega) (by omega), w64 (n := (i : Int) + 1) (by omega) (by omega)]
      refine Ev.pos (by omega) (Ev.pos (by omega) ?_)
      rw [rd_nat w i, show (i : Int) - 1 = ((i - 1 : Nat) : Int) by omega, rd_nat, e1]
      refine Ev.bind (show Ev (fun n => border_next.f n w acc (k : Int) (w.getD i 0)) _ from g2) (Ev.pos (by omega) h3)
theorem borders_spec (w : List Int) (hl : w.length ≤ 60) : ∃ out : List Int, out.length = w.length ∧ (∀ t, 1 ≤ t → t ≤ w.length → ∃ k : Nat, out.getD (t - 1) 0 = k ∧ LB w t k) ∧ Ev (fun n => border_borders.f n w) out :=
  borders_loop w hl w.length 0 [] (by omega) rfl (fun t h1 h2 => by omega)
theorem perB_bd (w : List Int) (i p : Nat) (hi : i ≤ w.length) (h1 : 1 ≤ p) (h2 : p ≤ i) : perB (w.take i) (p : Int) = true ↔ bd w (i - p) i := by
  have hl : (w.take i).length = i := by simp <;> omega
  have g : ∀ s, s < i → (w.take i).getD s 0 = w.getD s 0 := fun s hs => by simp [List.getD_eq_getElem?_getD, List.getElem?_take, hs]
  rw [perB_iff _ _ h1 (by omega), hl]
  constructor
  · intro h
    refine ⟨by omega, fun s hs => ?_⟩
    have := h s (by omega)
    rw [g s (by omega), g _ (by omega)] at this
    rw [this, show i - (i - p) + s = s + p by omega]
  · rintro ⟨_, h⟩ s hs
    have := h s (by omega)
    rw [g s (by omega), g _ (by omega), this, show i - (i - p) + s = s + p by omega]
/-- A low word has no border. -/
theorem lyn_noborder {w : List Int} (h : Lyn w) {k : Nat} (hk : bd w k w.length) : k = 0 := by
  rcases Nat.eq_zero_or_pos k with h0 | h0
  · exact h0
  · obtain ⟨h1, h2⟩ := hk
    have h3 := h.2 (w.length - k) (by omega) (by omega)
    have e : w.drop (w.length - k) = w.take k := by
      refine List.ext_getElem (by simp; omega) fun i h4 h5 => ?_
      have hi : i < k := by simp at h5; omega
      have := h2 i hi
      simp only [List.getD_eq_getElem?_getD, List.getElem?_eq_getElem (show i < w.length by omega), List.getElem?_eq_getElem (show w.length - k + i < w.length by omega), Option.getD_some] at this
      simp only [List.getElem_drop, List.getElem_take]
      exact this.symm
    rw [e] at h3
    have h4 := ll_pre (w.take k) (w.drop k) (by intro c; have := congrArg List.length c; simp at this; omega)
    rw [List.take_append_drop] at h4
    exact absurd (ll_trans h3 h4) (ll_irrefl _)
theorem lyn_root {w : List Int} (h : Lyn w) {p : Nat} (hp : rootLen w p) : p = w.length := by
  have h1 := hp.1
  have h2 := rootLen_le hp h.1
  have h3 := (perB_bd w w.length p (Nat.le_refl _) h1 h2).1 (by rw [List.take_length]; exact hp.2.2.1)
  have := lyn_noborder h h3
  omega
/-- Low words, the first less than the second: both together are low. -/
theorem lyn_join {u v : List Int} (hu : Lyn u) (hv : Lyn v) (h : u < v) : Lyn (u ++ v) := by
  have hu0 := hu.1
  have hv0 := hv.1
  have key : u ++ v < v := by
    rcases ll_cases h with ⟨s, h1, h2⟩ | h1
    · have hs : 0 < s.length := by
        rcases Nat.eq_zero_or_pos s.length with c | c
        · exact absurd (List.eq_nil_of_length_eq_zero c) h1
        · exact c
      have h3 := hv.2 u.length (by omega) (by rw [h2]; simp; omega)
      have e : v.drop u.length = s := by rw [h2]; simp
      rw [e] at h3
      have := (ll_app u v s).2 h3
      rwa [← h2] at this
    · have := h1 v []
      rwa [List.append_nil] at this
  refine ⟨by simp; omega, fun j hj1 hj2 => ?_⟩
  rw [List.length_append] at hj2
  rcases Nat.lt_trichotomy j u.length with c | c | c
  · rw [List.drop_append_of_le_length (by omega)]
    exact ll_mis v v (hu.2 j hj1 c) (by simp)
  · rw [List.drop_append_of_le_length (by omega), List.drop_eq_nil_of_le (by omega)]
    exact key
  · have e : (u ++ v).drop j = v.drop (j - u.length) := by
      rw [List.drop_append, List.drop_eq_nil_of_le (by omega), List.nil_append]
    rw [e]
    exact ll_trans key (hv.2 _ (by omega) (by omega))
end Go.Proofs.Ytbblpddbkdiagaa.PureL
