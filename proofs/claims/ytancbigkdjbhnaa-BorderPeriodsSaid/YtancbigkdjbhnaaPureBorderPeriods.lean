/- The law BorderPeriods, as plain Lean: the longest border and the least period of each beginning are together as long as that. Conditions: none beyond the kinds of the arguments. -/
import Derived.Test.YtancbigkdjbhnaaPureLibA
import Derived.Test.YtancbigkdjbhnaaGA23
namespace Go.Proofs.Ytancbigkdjbhnaa.Pure
set_option linter.unusedVariables false
set_option linter.unusedSimpArgs false
open Go.RowKit Go.Proofs.Ytancbigkdjbhnaa.GA Go.Proofs.YtancbigkdjbhnaaW.PrintWords Go.Proofs.YtancbigkdjbhnaaW.PrintLast

/-- The first k letters end the first i, k < i. -/
def bd (w : List Int) (k i : Nat) : Prop := k < i ∧ ∀ s, s < k → w.getD s 0 = w.getD (i - k + s) 0
def LB (w : List Int) (i k : Nat) : Prop := bd w k i ∧ ∀ k', bd w k' i → k' ≤ k
theorem bd_trans {w : List Int} {a b i : Nat} (h : bd w a b) (h' : bd w b i) : bd w a i := by
  obtain ⟨h1, h2⟩ := h
  obtain ⟨h3, h4⟩ := h'
  refine ⟨by omega, fun s hs => ?_⟩
  rw [h2 s hs, h4 (b - a + s) (by omega), show i - b + (b - a + s) = i - a + s by omega]
theorem bd_inner {w : List Int} {a b i : Nat} (h : bd w a i) (h' : bd w b i) (hab : a < b) : bd w a b := by
  obtain ⟨h1, h2⟩ := h
  obtain ⟨h3, h4⟩ := h'
  refine ⟨hab, fun s hs => ?_⟩
  rw [h2 s hs, h4 (b - a + s) (by omega), show i - b + (b - a + s) = i - a + s by omega]
theorem bd_succ {w : List Int} {m i : Nat} : bd w (m + 1) (i + 1) ↔ bd w m i ∧ w.getD m 0 = w.getD i 0 := by
  constructor
  · rintro ⟨h1, h2⟩
    refine ⟨⟨by omega, fun s hs => ?_⟩, ?_⟩
    · rw [h2 s (by omega), show i + 1 - (m + 1) + s = i - m + s by omega]
    · rw [h2 m (by omega), show i + 1 - (m + 1) + m = i by omega]
  · rintro ⟨⟨h1, h2⟩, h3⟩
    refine ⟨by omega, fun s hs => ?_⟩
    rw [show i + 1 - (m + 1) + s = i - m + s by omega]
    rcases Nat.lt_or_ge s m with c | c
    · exact h2 s c
    · obtain rfl : s = m := by omega
      rw [h3, show i - s + s = i by omega]
theorem next_spec (w known : List Int) (hl : w.length ≤ 60) (i : Nat) (hi : i < w.length) (hk : known.length = i) (hlb : ∀ t, 1 ≤ t → t ≤ i → ∃ k : Nat, known.getD (t - 1) 0 = k ∧ LB w t k) :
    ∀ (k : Nat), bd w k i → (∀ k', bd w k' i → w.getD k' 0 = w.getD i 0 → k' ≤ k) → ∃ r : Nat, LB w (i + 1) r ∧ Ev (fun n => border_next.l0 n w known (k : Int) (w.getD i 0)) (r : Int) := by
  intro k
  induction k using Nat.strongRecOn with
  | ind k ih =>
    intro hb hm
    have hki := hb.1
    by_cases c : w.getD k 0 = w.getD i 0
    · refine ⟨k + 1, ⟨bd_succ.2 ⟨hb, c⟩, fun k' h => ?_⟩, Ev.step (fun n => by rw [border_next.l0]) ?_⟩
      · cases k' with
        | zero => omega
        | succ m => obtain ⟨h1, h2⟩ := bd_succ.1 h; have := hm m h1 h2; omega
      · refine Ev.neg (by omega) ?_
        by_cases c0 : (k : Int) > 0
        · refine Ev.pos c0 (Ev.pos (by omega) (Ev.pos (by omega) (Ev.pos (by rw [rd_nat]; exact c) ?_)))
          rw [w64 (by omega) (by omega)]
          exact Ev.eq (Ev.now _) (by omega)
        · refine Ev.neg c0 (Ev.pos (by omega) (Ev.pos (by omega) (Ev.pos (by rw [rd_nat]; exact c) ?_)))
          rw [w64 (by omega) (by omega)]
          exact Ev.eq (Ev.now _) (by omega)
    · rcases Nat.eq_zero_or_pos k with rfl | hp
      · refine ⟨0, ⟨⟨by omega, fun s hs => by omega⟩, fun k' h => ?_⟩, Ev.step (fun n => by rw [border_next.l0]) ?_⟩
        · cases k' with
          | zero => omega
          | succ m =>
            obtain ⟨h1, h2⟩ := bd_succ.1 h
            have := hm m h1 h2
            obtain rfl : m = 0 := by omega
            exact absurd h2 c
        · refine Ev.neg (by omega) (Ev.neg (by omega) (Ev.pos (by omega) (Ev.pos (by omega) (Ev.neg (by rw [rd_nat]; exact c) (Ev.now _)))))
      · obtain ⟨j, e1, e2⟩ := hlb k hp (by omega)
        have hjk := e2.1.1
        obtain ⟨r, h1, h2⟩ := ih j hjk (bd_trans e2.1 hb) (fun k' h h' => by
          have h3 := hm k' h h'
          have h4 : k' ≠ k := fun e => c (by rw [← e]; exact h')
          exact e2.2 k' (bd_inner h hb (by omega)))
        refine ⟨r, h1, Ev.step (fun n => by rw [border_next.l0]) ?_⟩
        refine Ev.neg (by omega) (Ev.pos (by omega) (Ev.pos (by omega) (Ev.pos (by omega) (Ev.neg (by rw [rd_nat]; exact c) ?_))))
        rw [w64 (by omega) (by omega)]
        refine Ev.pos (by omega) (Ev.pos (by omega) ?_)
        rw [show (k : Int) - 1 = ((k - 1 : Nat) : Int) by omega, rd_nat, e1]
        exact h2
theorem borders_loop (w : List Int) (hl : w.length ≤ 60) : ∀ (d i : Nat) (acc : List Int), i + d = w.length → acc.length = i → (∀ t, 1 ≤ t → t ≤ i → ∃ k : Nat, acc.getD (t - 1) 0 = k ∧ LB w t k) →
    ∃ out : List Int, out.length = w.length ∧ (∀ t, 1 ≤ t → t ≤ w.length → ∃ k : Nat, out.getD (t - 1) 0 = k ∧ LB w t k) ∧ Ev (fun n => border_borders.l0 n w acc w (w.length : Int) (i : Int)) out := by
  intro d
  induction d with
  | zero =>
    intro i acc hi ha h
    obtain rfl : i = w.length := by omega
    exact ⟨acc, ha, h, Ev.step (fun n => by rw [border_borders.l0]) (Ev.neg (by omega) (Ev.now _))⟩
  | succ d ih =>
    intro i acc hi ha h
    have app : ∀ r : Nat, LB w (i + 1) r → ∀ t, 1 ≤ t → t ≤ i + 1 → ∃ k : Nat, (acc ++ [(r : Int)]).getD (t - 1) 0 = k ∧ LB w t k := by
      intro r hr t h1 h2
      rcases Nat.lt_or_ge i t with c | c
      · obtain rfl : t = i + 1 := by omega
        exact ⟨r, by simp [List.getD_eq_getElem?_getD, ← ha], hr⟩
      · obtain ⟨k, e1, e2⟩ := h t h1 c
        refine ⟨k, ?_, e2⟩
        rw [List.getD_eq_getElem?_getD, List.getElem?_append_left (by omega), ← List.getD_eq_getElem?_getD, e1]
    rcases Nat.eq_zero_or_pos i with rfl | hp
    · obtain ⟨out, h1, h2, h3⟩ := ih 1 (acc ++ [0]) (by omega) (by simp [ha]) (app 0 ⟨⟨by omega, fun s hs => by omega⟩, fun k' hk => by have := hk.1; omega⟩)
      refine ⟨out, h1, h2, Ev.step (fun n => by rw [border_borders.l0]) ?_⟩
      refine Ev.pos (by omega) (Ev.pos (by omega) (Ev.pos (by omega) (Ev.pos rfl (Ev.pos (by omega) ?_))))
      rw [w64 (by omega) (by omega)]
      exact h3
    · obtain ⟨k, e1, e2⟩ := h i hp (Nat.le_refl _)
      obtain ⟨r, g1, g2⟩ := next_spec w acc hl i (by omega) ha h k e2.1 (fun k' hk _ => e2.2 k' hk)
      obtain ⟨out, h1, h2, h3⟩ := ih (i + 1) (acc ++ [(r : Int)]) (by omega) (by simp [ha]) (app r g1)
      refine ⟨out, h1, h2, Ev.step (fun n => by rw [border_borders.l0]) ?_⟩
      refine Ev.pos (by omega) (Ev.pos (by omega) (Ev.pos (by omega) (Ev.neg (by omega) ?_)))
      rw [w64 (n := (i : Int) - 1) (by omega) (by omega), w64 (n := (i : Int) + 1) (by omega) (by omega)]
      refine Ev.pos (by omega) (Ev.pos (by omega) ?_)
      rw [rd_nat w i, show (i : Int) - 1 = ((i - 1 : Nat) : Int) by omega, rd_nat, e1]
      refine Ev.bind (show Ev (fun n => border_next.f n w acc (k : Int) (w.getD i 0)) _ from g2) (Ev.pos (by omega) h3)
theorem borders_spec (w : List Int) (hl : w.length ≤ 60) : ∃ out : List Int, out.length = w.length ∧ (∀ t, 1 ≤ t → t ≤ w.length → ∃ k : Nat, out.getD (t - 1) 0 = k ∧ LB w t k) ∧ Ev (fun n => border_borders.f n w) out :=
  borders_loop w hl w.length 0 [] (by omega) rfl (fun t h1 h2 => by omega)
/-- The periods from i + 1 on. -/
def pers (w : List Int) : Nat → Nat → List Int
  | _, 0 => []
  | i, d + 1 => if perB w ((i : Int) + 1) = true then ((i : Int) + 1) :: pers w (i + 1) d else pers w (i + 1) d
theorem pers_loop (w : List Int) (hw : isB w) (hl : w.length ≤ 60) : ∀ (d i : Nat) (acc : List Int), i + d = w.length → acc.length ≤ i → Ev (fun n => power_Periods.l0 n w acc (w.length : Int) (i : Int)) (acc ++ pers w i d, 0) := by
  intro d
  induction d with
  | zero =>
    intro i acc hi ha
    exact Ev.step (fun n => by rw [power_Periods.l0]) (Ev.neg (by omega) (Ev.eq (Ev.now _) (by simp [pers])))
  | succ d ih =>
    intro i acc hi ha
    refine Ev.step (fun n => by rw [power_Periods.l0]) (Ev.pos (by omega) ?_)
    rw [w64 (n := (i : Int) + 1) (by omega) (by omega)]
    refine Ev.bindc (has_spec w hl hw _) ?_
    simp only [pers]
    by_cases c : perB w ((i : Int) + 1) = true
    · rw [if_pos c]
      refine Ev.pos c (Ev.pos (by omega) ?_)
      have := ih (i + 1) (acc ++ [(i : Int) + 1]) (by omega) (by simp <;> omega)
      rw [List.append_assoc, List.singleton_append] at this
      exact this
    · rw [if_neg c]
      exact Ev.neg c (ih (i + 1) acc (by omega) (by omega))
theorem pers_first (w : List Int) (p : Nat) (hp : perB w (p : Int) = true) (hm : ∀ q : Nat, q < p → perB w (q : Int) = false) : ∀ (d i : Nat), i < p → p ≤ i + d → ∃ tl, pers w i d = (p : Int) :: tl := by
  intro d
  induction d with
  | zero => intro i h1 h2; omega
  | succ d ih =>
    intro i h1 h2
    simp only [pers]
    by_cases c : i + 1 = p
    · subst c
      rw [if_pos (by rw [← hp]; congr 1)]
      exact ⟨_, by congr 1⟩
    · have := hm (i + 1) (by omega)
      rw [if_neg (by rw [show ((i : Int) + 1) = ((i + 1 : Nat) : Int) by omega, this]; simp)]
      exact ih (i + 1) (by omega) (by omega)
theorem perB_bd (w : List Int) (i p : Nat) (hi : i ≤ w.length) (h1 : 1 ≤ p) (h2 : p ≤ i) : perB (w.take i) (p : Int) = true ↔ bd w (i - p) i := by
  have hl : (w.take i).length = i := by simp <;> omega
  have g : ∀ s, s < i → (w.take i).getD s 0 = w.getD s 0 := fun s hs => by simp [List.getD_eq_getElem?_getD, List.getElem?_take, hs]
  rw [perB_iff _ _ h1 (by omega), hl]
  constructor
  · intro h
    refine ⟨by omega, fun s hs => ?_⟩
    have := h s (by omega)
    rw [g s (by omega), g _ (by omega)] at this
    rw [this, show i - (i - p) + s = s + p by omega]
  · rintro ⟨_, h⟩ s hs
    have := h s (by omega)
    rw [g s (by omega), g _ (by omega), this, show i - (i - p) + s = s + p by omega]
theorem BorderPeriods : coppicerkeep_BorderPeriods.Pure := by
  intro w ⟨_, hlw, hw⟩
  have hb := isB_wf hw
  refine Ev.rounds ?_
  unfold coppicerkeep_BorderPeriods.f border_Borders.f
  by_cases hl : 60 < w.length
  · exact Ev.bind (Ev.pos (by omega) (Ev.now _)) (Ev.bind (lon_spec _ (by simp)) (Ev.pos (by simpa [any60] using hl) (Ev.eq (Ev.now _) (by decide))))
  obtain ⟨out, h1, h2, h3⟩ := borders_spec w (by omega)
  refine Ev.bind (Ev.neg (by omega) (Ev.bind h3 (Ev.now _))) (Ev.bind (lon_spec _ (by simp)) (Ev.neg (by simpa [any60] using hl) (Ev.pos rfl ?_)))
  refine Ev.step (fun k => by rw [coppicerkeep_BorderPeriods.j0]) (Ev.neg (by simp [h1]) ?_)
  dsimp only
  have loop : ∀ (d i : Nat), 1 ≤ i → i + d = w.length + 1 → Ev (fun n => coppicerkeep_BorderPeriods.l0 n w out (i : Int)) true := by
    intro d
    induction d with
    | zero =>
      intro i hi hd
      exact Ev.step (fun n => by rw [coppicerkeep_BorderPeriods.l0]) (Ev.neg (by omega) (Ev.now _))
    | succ d ih =>
      intro i hi hd
      obtain ⟨k, e1, e2⟩ := h2 i hi (by omega)
      have hki := e2.1.1
      have hli : (w.take i).length = i := by simp <;> omega
      have hp : perB (w.take i) ((i - k : Nat) : Int) = true := by
        rw [perB_bd w i (i - k) (by omega) (by omega) (by omega), show i - (i - k) = k by omega]; exact e2.1
      have hm : ∀ q : Nat, q < i - k → perB (w.take i) (q : Int) = false := fun q hq => by
        rw [Bool.eq_false_iff]
        intro c
        rcases Nat.eq_zero_or_pos q with rfl | hq0
        · have : ¬ (1 ≤ ((0 : Nat) : Int)) := by omega
          unfold perB at c
          rw [decide_eq_true_iff] at c
          exact this c.1
        · rw [perB_bd w i q (by omega) hq0 (by omega)] at c
          have := e2.2 _ c
          omega
      obtain ⟨tl, ht⟩ := pers_first (w.take i) (i - k) hp hm i 0 (by omega) (by omega)
      have hper : Ev (fun n => power_Periods.f n (w.take i)) (((i - k : Nat) : Int) :: tl, 0) := by
        unfold power_Periods.f
        refine Ev.bind (lar_spec _ (by simp)) (Ev.neg (by simp [any60]; omega) ?_)
        have := pers_loop (w.take i) (isB_take hb i) (by omega) i 0 [] (by omega) (by simp)
        rw [ht] at this
        exact this
      refine Ev.step (fun n => by rw [coppicerkeep_BorderPeriods.l0]) ?_
      refine Ev.pos (by omega) (Ev.pos (by omega) ?_)
      rw [Int.toNat_natCast]
      refine Ev.bind hper (Ev.pos rfl (Ev.neg (by simp <;> omega) (Ev.pos (by simp <;> omega) ?_)))
      rw [w64 (n := (i : Int) - 1) (by omega) (by omega), w64 (n := (i : Int) + 1) (by omega) (by omega)]
      refine Ev.pos (by omega) (Ev.pos (by omega) ?_)
      rw [show (i : Int) - 1 = ((i - 1 : Nat) : Int) by omega, rd_nat, e1, w64 (by omega) (by omega), show rd (((i - k : Nat) : Int) :: tl) 0 = ((i - k : Nat) : Int) from rfl]
      exact Ev.pos (by omega) (ih (i + 1) (by omega) (by omega))
  exact loop w.length 1 (by omega) (by omega)
end Go.Proofs.Ytancbigkdjbhnaa.Pure
