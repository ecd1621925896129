/- border.Find over lists: what is found is where the word stands (Knuth, Morris and Pratt), in plain Lean. Conditions: none. -/
import Derived.Test.YtkalcljgcigdgaaEv
import Derived.Test.YtkalcljgcigdgaaGE6
namespace Go.Proofs.Ytkalcljgcigdgaa.PEM
set_option linter.unusedVariables false
set_option linter.unusedSimpArgs false
open Go.RowKit Go.Proofs.Ytkalcljgcigdgaa.GE Go.Proofs.YtkalcljgcigdgaaW.PrintWords Go.Proofs.YtkalcljgcigdgaaW.PrintLast Go.Proofs.YtkalcljgcigdgaaW.PrintMore

/-- The first k letters end the first i, k < i. -/
def bd (w : List Int) (k i : Nat) : Prop := k < i ∧ ∀ s, s < k → w.getD s 0 = w.getD (i - k + s) 0
def LB (w : List Int) (i k : Nat) : Prop := bd w k i ∧ ∀ k', bd w k' i → k' ≤ k
theorem bd_trans {w : List Int} {a b i : Nat} (h : bd w a b) (h' : bd w b i) : bd w a i := by
  obtain ⟨h1, h2⟩ := h
  obtain ⟨h3, h4⟩ := h'
  refine ⟨by omega, fun s hs => ?_⟩
  rw [h2 s hs, h4 (b - a + s) (by omega), show i - b + (b - a + s) = i - a + s by omega]
theorem bd_inner {w : List Int} {a b i : Nat} (h : bd w a i) (h' : bd w b i) (hab : a < b) : bd w a b := by
  obtain ⟨h1, h2⟩ := h
  obtain ⟨h3, h4⟩ := h'
  refine ⟨hab, fun s hs => ?_⟩
  rw [h2 s hs, h4 (b - a + s) (by omega), show i - b + (b - a + s) = i - a + s by omega]
theorem bd_succ {w : List Int} {m i : Nat} : bd w (m + 1) (i + 1) ↔ bd w m i ∧ w.getD m 0 = w.getD i 0 := by
  constructor
  · rintro ⟨h1, h2⟩
    refine ⟨⟨by omega, fun s hs => ?_⟩, ?_⟩
    · rw [h2 s (by omega), show i + 1 - (m + 1) + s = i - m + s by omega]
    · rw [h2 m (by omega), show i + 1 - (m + 1) + m = i by omega]
  · rintro ⟨⟨h1, h2⟩, h3⟩
    refine ⟨by omega, fun s hs => ?_⟩
    rw [show i + 1 - (m + 1) + s = i - m + s by omega]
    rcases Nat.lt_or_ge s m with c | c
    · exact h2 s c
    · obtain rfl : s = m := by omega
      rw [h3, show i - s + s = i by omega]
theorem next_spec (w known : List Int) (hl : w.length ≤ 60) (i : Nat) (hi : i < w.length) (hk : known.length = i) (hlb : ∀ t, 1 ≤ t → t ≤ i → ∃ k : Nat, known.getD (t - 1) 0 = k ∧ LB w t k) :
    ∀ (k : Nat), bd w k i → (∀ k', bd w k' i → w.getD k' 0 = w.getD i 0 → k' ≤ k) → ∃ r : Nat, LB w (i + 1) r ∧ Ev (fun n => border_next.l0 n w known (k : Int) (w.getD i 0)) (r : Int) := by
  intro k
  induction k using Nat.strongRecOn with
  | ind k ih =>
    intro hb hm
    have hki := hb.1
    by_cases c : w.getD k 0 = w.getD i 0
    · refine ⟨k + 1, ⟨bd_succ.2 ⟨hb, c⟩, fun k' h => ?_⟩, Ev.step (fun n => by rw [border_next.l0]) ?_⟩
      · cases k' with
        | zero => omega
        | succ m => obtain ⟨h1, h2⟩ := bd_succ.1 h; have := hm m h1 h2; omega
      · refine Ev.neg (by omega) ?_
        by_cases c0 : (k : Int) > 0
        · refine Ev.pos c0 (Ev.pos (by omega) (Ev.pos (by omega) (Ev.pos (by rw [rd_nat]; exact c) ?_)))
          rw [w64 (by omega) (by omega)]
          exact Ev.eq (Ev.now _) (by omega)
        · refine Ev.neg c0 (Ev.pos (by omega) (Ev.pos (by omega) (Ev.pos (by rw [rd_nat]; exact c) ?_)))
          rw [w64 (by omega) (by omega)]
          exact Ev.eq (Ev.now _) (by omega)
    · rcases Nat.eq_zero_or_pos k with rfl | hp
      · refine ⟨0, ⟨⟨by omega, fun s hs => by omega⟩, fun k' h => ?_⟩, Ev.step (fun n => by rw [border_next.l0]) ?_⟩
        · cases k' with
          | zero => omega
          | succ m =>
            obtain ⟨h1, h2⟩ := bd_succ.1 h
            have := hm m h1 h2
            obtain rfl : m = 0 := by omega
            exact absurd h2 c
        · refine Ev.neg (by omega) (Ev.neg (by omega) (Ev.pos (by omega) (Ev.pos (by omega) (Ev.neg (by rw [rd_nat]; exact c) (Ev.now _)))))
      · obtain ⟨j, e1, e2⟩ := hlb k hp (by omega)
        have hjk := e2.1.1
        obtain ⟨r, h1, h2⟩ := ih j hjk (bd_trans e2.1 hb) (fun k' h h' => by
          have h3 := hm k' h h'
          have h4 : k' ≠ k := fun e => c (by rw [← e]; exact h')
          exact e2.2 k' (bd_inner h hb (by omega)))
        refine ⟨r, h1, Ev.step (fun n => by rw [border_next.l0]) ?_⟩
        refine Ev.neg (by omega) (Ev.pos (by omega) (Ev.pos (by omega) (Ev.pos (by omega) (Ev.neg (by rw [rd_nat]; exact c) ?_))))
        rw [w64 (by omega) (by omega)]
        refine Ev.pos (by omega) (Ev.pos (by omega) ?_)
        rw [show (k : Int) - 1 = ((k - 1 : Nat) : Int) by omega, rd_nat, e1]
        exact h2
theorem borders_loop (w : List Int) (hl : w.length ≤ 60) : ∀ (d i : Nat) (acc : List Int), i + d = w.length → acc.length = i → (∀ t, 1 ≤ t → t ≤ i → ∃ k : Nat, acc.getD (t - 1) 0 = k ∧ LB w t k) →
    ∃ out : List Int, out.length = w.length ∧ (∀ t, 1 ≤ t → t ≤ w.length → ∃ k : Nat, out.getD (t - 1) 0 = k ∧ LB w t k) ∧ Ev (fun n => border_borders.l0 n w acc w (w.length : Int) (i : Int)) out := by
  intro d
  induction d with
  | zero =>
    intro i acc hi ha h
    obtain rfl : i = w.length := by omega
    exact ⟨acc, ha, h, Ev.step (fun n => by rw [border_borders.l0]) (Ev.neg (by omega) (Ev.now _))⟩
  | succ d ih =>
    intro i acc hi ha h
    have app : ∀ r : Nat, LB w (i + 1) r → ∀ t, 1 ≤ t → t ≤ i + 1 → ∃ k : Nat, (acc ++ [(r : Int)]).getD (t - 1) 0 = k ∧ LB w t k := by
      intro r hr t h1 h2
      rcases Nat.lt_or_ge i t with c | c
      · obtain rfl : t = i + 1 := by omega
        exact ⟨r, by simp [List.getD_eq_getElem?_getD, ← ha], hr⟩
      · obtain ⟨k, e1, e2⟩ := h t h1 c
        refine ⟨k, ?_, e2⟩
        rw [List.getD_eq_getElem?_getD, List.getElem?_append_left (by omega), ← List.getD_eq_getElem?_getD, e1]
    rcases Nat.eq_zero_or_pos i with rfl | hp
    · obtain ⟨out, h1, h2, h3⟩ := ih 1 (acc ++ [0]) (by omega) (by simp [ha]) (app 0 ⟨⟨by omega, fun s hs => by omega⟩, fun k' hk => by have := hk.1; omega⟩)
      refine ⟨out, h1, h2, Ev.step (fun n => by rw [border_borders.l0]) ?_⟩
      refine Ev.pos (by omega) (Ev.pos (by omega) (Ev.pos (by omega) (Ev.pos rfl (Ev.pos (by omega) ?_))))
      rw [w64 (by omega) (by omega)]
      exact h3
    · obtain ⟨k, e1, e2⟩ := h i hp (Nat.le_refl _)
      obtain ⟨r, g1, g2⟩ := next_spec w acc hl i (by omega) ha h k e2.1 (fun k' hk _ => e2.2 k' hk)
      obtain ⟨out, h1, h2, h3⟩ := ih (i + 1) (acc ++ [(r : Int)]) (by omega) (by simp [ha]) (app r g1)
      refine ⟨out, h1, h2, Ev.step (fun n => by rw [border_borders.l0]) ?_⟩
      refine Ev.pos (by omega) (Ev.pos (by omega) (Ev.pos (by omega) (Ev.neg (by omega) ?_)))
      rw [w64 (n := (i : Int) - 1) (by omega) (by omega), w64 (n := (i : Int) + 1) (by omega) (by omega)]
      refine Ev.pos (by omega) (Ev.pos (by omega) ?_)
      rw [rd_nat w i, show (i : Int) - 1 = ((i - 1 : Nat) : Int) by omega, rd_nat, e1]
      refine Ev.bind (show Ev (fun n => border_next.f n w acc (k : Int) (w.getD i 0)) _ from g2) (Ev.pos (by omega) h3)
theorem borders_spec (w : List Int) (hl : w.length ≤ 60) : ∃ out : List Int, out.length = w.length ∧ (∀ t, 1 ≤ t → t ≤ w.length → ∃ k : Nat, out.getD (t - 1) 0 = k ∧ LB w t k) ∧ Ev (fun n => border_borders.f n w) out :=
  borders_loop w hl w.length 0 [] (by omega) rfl (fun t h1 h2 => by omega)
/-- The first k letters of w end at the place i of T. -/
def md (w T : List Int) (k i : Nat) : Prop := k ≤ i ∧ k ≤ w.length ∧ ∀ s, s < k → w.getD s 0 = T.getD (i - k + s) 0
def LM (w T : List Int) (i k : Nat) : Prop := md w T k i ∧ ∀ k', md w T k' i → k' ≤ k
theorem md_bd {w T : List Int} {a b i : Nat} (h : bd w a b) (h' : md w T b i) : md w T a i := by
  obtain ⟨h1, h2⟩ := h
  obtain ⟨h3, h4, h5⟩ := h'
  refine ⟨by omega, by omega, fun s hs => ?_⟩
  rw [h2 s hs, h5 (b - a + s) (by omega), show i - b + (b - a + s) = i - a + s by omega]
theorem md_inner {w T : List Int} {a b i : Nat} (h : md w T a i) (h' : md w T b i) (hab : a < b) : bd w a b := by
  obtain ⟨h1, h2, h3⟩ := h
  obtain ⟨h4, h5, h6⟩ := h'
  refine ⟨hab, fun s hs => ?_⟩
  rw [h3 s hs, h6 (b - a + s) (by omega), show i - b + (b - a + s) = i - a + s by omega]
theorem md_succ {w T : List Int} {m i : Nat} : md w T (m + 1) (i + 1) ↔ md w T m i ∧ m < w.length ∧ w.getD m 0 = T.getD i 0 := by
  constructor
  · rintro ⟨h1, h2, h3⟩
    refine ⟨⟨by omega, by omega, fun s hs => ?_⟩, by omega, ?_⟩
    · rw [h3 s (by omega), show i + 1 - (m + 1) + s = i - m + s by omega]
    · rw [h3 m (by omega), show i + 1 - (m + 1) + m = i by omega]
  · rintro ⟨⟨h1, h2, h3⟩, h4, h5⟩
    refine ⟨by omega, by omega, fun s hs => ?_⟩
    rw [show i + 1 - (m + 1) + s = i - m + s by omega]
    rcases Nat.lt_or_ge s m with c | c
    · exact h3 s c
    · obtain rfl : s = m := by omega
      rw [h5, show i - s + s = i by omega]
theorem next_find (w known T : List Int) (hl : w.length ≤ 60) (h0 : 0 < w.length) (i : Nat) (hk : known.length = w.length) (hlb : ∀ t, 1 ≤ t → t ≤ w.length → ∃ k : Nat, known.getD (t - 1) 0 = k ∧ LB w t k) :
    ∀ (k : Nat), md w T k i → (∀ k', md w T k' i → k' < w.length → w.getD k' 0 = T.getD i 0 → k' ≤ k) → ∃ r : Nat, LM w T (i + 1) r ∧ Ev (fun n => border_next.l0 n w known (k : Int) (T.getD i 0)) (r : Int) := by
  intro k
  induction k using Nat.strongRecOn with
  | ind k ih =>
    intro hb hm
    have hkw := hb.2.1
    have back : 0 < k → (k = w.length ∨ w.getD k 0 ≠ T.getD i 0) → ∃ (j r : Nat), known.getD (k - 1) 0 = j ∧ LM w T (i + 1) r ∧ Ev (fun n => border_next.l0 n w known (j : Int) (T.getD i 0)) (r : Int) := by
      intro hp hc
      obtain ⟨j, e1, e2⟩ := hlb k hp hkw
      obtain ⟨r, h1, h2⟩ := ih j e2.1.1 (md_bd e2.1 hb) (fun k' h h' h'' => by
        have h3 := hm k' h h' h''
        have h4 : k' ≠ k := fun e => by
          rcases hc with hc | hc
          · omega
          · exact hc (by rw [← e]; exact h'')
        exact e2.2 k' (md_inner h hb (by omega)))
      exact ⟨j, r, e1, h1, h2⟩
    by_cases cl : k = w.length
    · obtain ⟨j, r, e1, h1, h2⟩ := back (by omega) (.inl cl)
      refine ⟨r, h1, Ev.step (fun n => by rw [border_next.l0]) (Ev.pos (by omega) ?_)⟩
      rw [w64 (by omega) (by omega)]
      refine Ev.pos (by omega) (Ev.pos (by omega) ?_)
      rw [show (k : Int) - 1 = ((k - 1 : Nat) : Int) by omega, rd_nat, e1]
      exact h2
    by_cases c : w.getD k 0 = T.getD i 0
    · refine ⟨k + 1, ⟨md_succ.2 ⟨hb, by omega, c⟩, fun k' h => ?_⟩, Ev.step (fun n => by rw [border_next.l0]) ?_⟩
      · cases k' with
        | zero => omega
        | succ m => obtain ⟨h1, h2, h3⟩ := md_succ.1 h; have := hm m h1 h2 h3; omega
      · refine Ev.neg (by omega) ?_
        by_cases c0 : (k : Int) > 0
        · refine Ev.pos c0 (Ev.pos (by omega) (Ev.pos (by omega) (Ev.pos (by rw [rd_nat]; exact c) ?_)))
          rw [w64 (by omega) (by omega)]
          exact Ev.eq (Ev.now _) (by omega)
        · refine Ev.neg c0 (Ev.pos (by omega) (Ev.pos (by omega) (Ev.pos (by rw [rd_nat]; exact c) ?_)))
          rw [w64 (by omega) (by omega)]
          exact Ev.eq (Ev.now _) (by omega)
    · rcases Nat.eq_zero_or_pos k with rfl | hp
      · refine ⟨0, ⟨⟨by omega, by omega, fun s hs => by omega⟩, fun k' h => ?_⟩, Ev.step (fun n => by rw [border_next.l0]) ?_⟩
        · cases k' with
          | zero => omega
          | succ m =>
            obtain ⟨h1, h2, h3⟩ := md_succ.1 h
            have := hm m h1 h2 h3
            obtain rfl : m = 0 := by omega
            exact absurd h3 c
        · refine Ev.neg (by omega) (Ev.neg (by omega) (Ev.pos (by omega) (Ev.pos (by omega) (Ev.neg (by rw [rd_nat]; exact c) (Ev.now _)))))
      · obtain ⟨j, r, e1, h1, h2⟩ := back hp (.inr c)
        refine ⟨r, h1, Ev.step (fun n => by rw [border_next.l0]) ?_⟩
        refine Ev.neg (by omega) (Ev.pos (by omega) (Ev.pos (by omega) (Ev.pos (by omega) (Ev.neg (by rw [rd_nat]; exact c) ?_))))
        rw [w64 (by omega) (by omega)]
        refine Ev.pos (by omega) (Ev.pos (by omega) ?_)
        rw [show (k : Int) - 1 = ((k - 1 : Nat) : Int) by omega, rd_nat, e1]
        exact h2
/-- Does w stand in T at p? -/
def occB (w T : List Int) (p : Nat) : Bool := decide ((T.drop p).take w.length = w)
theorem occ_iff {w T : List Int} {p : Nat} : occB w T p = true ↔ p + w.length ≤ T.length ∧ (∀ s, s < w.length → w.getD s 0 = T.getD (p + s) 0) ∨ w = [] := by
  unfold occB
  rw [decide_eq_true_iff]
  constructor
  · intro h
    by_cases hw : w = []
    · exact .inr hw
    left
    have hlen := congrArg List.length h
    rw [List.length_take, List.length_drop] at hlen
    have h0 : 0 < w.length := List.length_pos_iff.2 hw
    refine ⟨by omega, fun s hs => ?_⟩
    have h2 := congrArg (fun l => l.getD s 0) h
    have h2 : ((T.drop p).take w.length).getD s 0 = w.getD s 0 := h2
    rw [← h2]
    simp only [List.getD_eq_getElem?_getD]
    rw [List.getElem?_take_of_lt hs, List.getElem?_drop]
  · rintro (⟨h1, h2⟩ | rfl)
    · apply List.ext_getElem?
      intro s
      by_cases hs : s < w.length
      · rw [List.getElem?_take_of_lt hs, List.getElem?_drop, List.getElem?_eq_getElem hs, List.getElem?_eq_getElem (by omega)]
        have := h2 s hs
        simp only [List.getD_eq_getElem?_getD] at this
        rw [List.getElem?_eq_getElem hs, List.getElem?_eq_getElem (by omega)] at this
        simp only [Option.getD_some] at this
        rw [this]
      · rw [List.getElem?_eq_none (by rw [List.length_take]; omega), List.getElem?_eq_none (by omega)]
    · simp
theorem md_occ {w T : List Int} {i : Nat} (h0 : 0 < w.length) (hi : w.length ≤ i) (hT : i ≤ T.length) : md w T w.length i ↔ occB w T (i - w.length) = true := by
  rw [occ_iff]
  constructor
  · rintro ⟨h1, h2, h3⟩
    exact .inl ⟨by omega, h3⟩
  · rintro (⟨h1, h2⟩ | h)
    · exact ⟨hi, Nat.le_refl _, h2⟩
    · rw [h] at h0; simp at h0
/-- Where w stands in T, ends up to the place m. -/
def occs (w T : List Int) (m : Nat) : List Int := ((List.range (m + 1 - w.length)).filter (occB w T)).map fun (p : Nat) => (p : Int)
theorem occs_len (w T : List Int) (m : Nat) : (occs w T m).length ≤ m + 1 := by
  unfold occs
  rw [List.length_map]
  have := List.length_filter_le (occB w T) (List.range (m + 1 - w.length))
  rw [List.length_range] at this
  omega
theorem occs_succ (w T : List Int) (m : Nat) : occs w T (m + 1) = occs w T m ++ (if w.length ≤ m + 1 ∧ occB w T (m + 1 - w.length) = true then [((m + 1 - w.length : Nat) : Int)] else []) := by
  unfold occs
  by_cases h : w.length ≤ m + 1
  · rw [show m + 1 + 1 - w.length = m + 1 - w.length + 1 by omega, List.range_succ, List.filter_append, List.map_append]
    by_cases c : occB w T (m + 1 - w.length) = true
    · rw [if_pos ⟨h, c⟩]; simp [c]
    · rw [if_neg (fun k => c k.2)]; simp [c]
  · rw [show m + 1 + 1 - w.length = 0 by omega, show m + 1 - w.length = 0 by omega, if_neg (fun k => h k.1)]; simp
theorem find_l1 (w known T : List Int) (hl : w.length ≤ 60) (hT : T.length ≤ 60) (h0 : 0 < w.length) (hk : known.length = w.length) (hlb : ∀ t, 1 ≤ t → t ≤ w.length → ∃ k : Nat, known.getD (t - 1) 0 = k ∧ LB w t k) :
    ∀ (d i k : Nat), i + d = T.length → LM w T i k → Ev (fun n => border_Find.l1 n w (occs w T i) known (k : Int) T (T.length : Int) (i : Int)) (occs w T T.length, 0) := by
  intro d
  induction d with
  | zero =>
    intro i k hi hk
    obtain rfl : i = T.length := by omega
    exact Ev.step (fun n => by rw [border_Find.l1]) (Ev.neg (by omega) (Ev.now _))
  | succ d ih =>
    intro i k hi hM
    obtain ⟨r, hr, hE⟩ := next_find w known T hl h0 i hk hlb k hM.1 (fun k' h _ _ => hM.2 k' h)
    have hrw := hr.1.2.1
    have hri := hr.1.1
    refine Ev.step (fun n => by rw [border_Find.l1]) (Ev.pos (by omega) (Ev.pos (by omega) (Ev.pos (by omega) ?_)))
    rw [rd_nat]
    refine Ev.bind (show Ev (fun n => border_next.f n w known (k : Int) (T.getD i 0)) _ from hE) ?_
    have := occs_len w T i
    have hs := occs_succ w T i
    by_cases c : r = w.length
    · have ho : w.length ≤ i + 1 ∧ occB w T (i + 1 - w.length) = true := ⟨by omega, (md_occ h0 (by omega) (by omega)).1 (c ▸ hr.1)⟩
      rw [if_pos ho] at hs
      refine Ev.pos (by omega) (Ev.pos (by omega) ?_)
      rw [w64 (n := (i : Int) + 1) (by omega) (by omega), w64 (by omega) (by omega), show (i : Int) + 1 - (r : Int) = ((i + 1 - w.length : Nat) : Int) by omega, ← hs]
      exact ih (i + 1) r (by omega) hr
    · have ho : ¬ (w.length ≤ i + 1 ∧ occB w T (i + 1 - w.length) = true) := fun h => c (by
        have h2 := (md_occ h0 h.1 (by omega)).2 h.2
        have := hr.2 _ h2
        omega)
      rw [if_neg ho, List.append_nil] at hs
      refine Ev.neg (by omega) ?_
      rw [w64 (by omega) (by omega), ← hs]
      exact ih (i + 1) r (by omega) hr
theorem find_l0 (N : Nat) (hN : N ≤ 61) : ∀ (d i : Nat), i + d = N → Ev (fun n => border_Find.l0 n ((List.range i).map fun (p : Nat) => (p : Int)) (N : Int) (i : Int)) ((List.range N).map fun (p : Nat) => (p : Int), 0) := by
  intro d
  induction d with
  | zero =>
    intro i hi
    obtain rfl : i = N := by omega
    exact Ev.step (fun n => by rw [border_Find.l0]) (Ev.neg (by omega) (Ev.now _))
  | succ d ih =>
    intro i hi
    refine Ev.step (fun n => by rw [border_Find.l0]) (Ev.pos (by omega) (Ev.pos (by simp; omega) ?_))
    rw [w64 (by omega) (by omega)]
    have := ih (i + 1) (by omega)
    rw [List.range_succ, List.map_append] at this
    exact this
/-- border.Find: all places. -/
theorem find_spec (w T : List Int) : Ev (fun n => border_Find.f n w T) (if 60 < w.length ∨ 60 < T.length then ([], 1) else (occs w T T.length, 0)) := by
  unfold border_Find.f
  by_cases h1 : 60 < w.length
  · rw [if_pos (.inl h1)]
    exact Ev.pos (by omega) (Ev.step (fun n => by rw [border_Find.j0]) (Ev.pos rfl (Ev.now _)))
  by_cases h2 : 60 < T.length
  · rw [if_pos (.inr h2)]
    exact Ev.neg (by omega) (Ev.step (fun n => by rw [border_Find.j0]) (Ev.pos (by simp; omega) (Ev.now _)))
  rw [if_neg (fun h => h.elim h1 h2)]
  refine Ev.neg (by omega) (Ev.step (fun n => by rw [border_Find.j0]) (Ev.neg (by simp; omega) ?_))
  by_cases h0 : w.length = 0
  · refine Ev.pos (by omega) ?_
    rw [w64 (by omega) (by omega)]
    have := find_l0 (T.length + 1) (by omega) (T.length + 1) 0 (by omega)
    have e : occs w T T.length = (List.range (T.length + 1)).map fun (p : Nat) => (p : Int) := by
      unfold occs
      rw [h0, Nat.sub_zero, List.filter_eq_self.2 (fun p _ => occ_iff.2 (.inr (List.eq_nil_of_length_eq_zero h0)))]
    rw [e]
    exact this
  · refine Ev.neg (by omega) ?_
    obtain ⟨known, g1, g2, g3⟩ := borders_spec w (by omega)
    have := find_l1 w known T (by omega) (by omega) (by omega) g1 g2 T.length 0 0 (by omega) ⟨⟨Nat.le_refl _, by omega, fun s hs => by omega⟩, fun k' hk => by have := hk.1; omega⟩
    have e : occs w T 0 = [] := by
      unfold occs
      rw [show 0 + 1 - w.length = 0 by omega]; rfl
    rw [e] at this
    exact Ev.bind g3 this

end Go.Proofs.Ytkalcljgcigdgaa.PEM
