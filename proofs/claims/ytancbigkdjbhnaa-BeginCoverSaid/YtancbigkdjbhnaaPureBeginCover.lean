/- The law BeginCover, as plain Lean: who covers what covers covers; who covers begins and ends it; each word covers itself. Conditions: none beyond the kinds of the arguments. -/
import Derived.Test.YtancbigkdjbhnaaPureLibA
import Derived.Test.YtancbigkdjbhnaaPureStoreSum
import Derived.Test.YtancbigkdjbhnaaGA10
namespace Go.Proofs.Ytancbigkdjbhnaa.Pure
set_option linter.unusedVariables false
set_option linter.unusedSimpArgs false
open Go.RowKit Go.Proofs.Ytancbigkdjbhnaa.GA Go.Proofs.YtancbigkdjbhnaaW.PrintWords Go.Proofs.YtancbigkdjbhnaaW.PrintLast

def occ (w u : List Int) (j : Nat) : Prop := j + u.length ≤ w.length ∧ (w.drop j).take u.length = u
instance (w u : List Int) (j : Nat) : Decidable (occ w u j) := by unfold occ; exact inferInstance
theorem pre_spec (a b : List Int) (ha : isB a) (hb : isB b) (hl : a.length ≤ 60) (hl2 : b.length ≤ 60) : bytes_HasPrefix.f a b = some (decide (occ a b 0)) := by
  unfold bytes_HasPrefix.f
  by_cases h : (a.length : Int) ≥ (b.length : Int)
  · rw [if_pos h, if_pos (by omega), if_pos (by omega), eqB_spec _ _ (isB_take ha _) hb, Option.bind_some]
    simp only [Option.some.injEq, decide_eq_decide, Int.toNat_natCast]
    unfold occ
    rw [List.drop_zero]
    exact ⟨fun h2 => ⟨by omega, h2⟩, fun h2 => h2.2⟩
  · rw [if_neg h]
    simp only [Option.some.injEq]; symm; rw [decide_eq_false_iff_not]; unfold occ; omega
theorem occ_drop (w u : List Int) (i : Nat) (h : i ≤ w.length) : occ (w.drop i) u 0 ↔ occ w u i := by
  unfold occ
  rw [List.drop_drop, List.length_drop]
  simp only [Nat.zero_add, Nat.add_zero]
  constructor
  · rintro ⟨h1, h2⟩; exact ⟨by omega, h2⟩
  · rintro ⟨h1, h2⟩; exact ⟨by omega, h2⟩
def covE (w u : List Int) : Nat → Nat → Nat → Nat
  | 0, _, E => E
  | d + 1, i, E => covE w u d (i + 1) (if occ w u i ∧ i ≤ E then i + u.length else E)
theorem cov_loop (w u : List Int) (hw : isB w) (hu : isB u) (hl : w.length ≤ 60) (hl2 : u.length ≤ 60) : ∀ (d i E : Nat), i + d = w.length → E ≤ 120 →
    Ev (fun k => begin_Cover.l0 k w u (E : Int) (w.length : Int) (i : Int)) (decide (w.length ≤ covE w u d i E), 0) := by
  intro d
  induction d with
  | zero =>
    intro i E hi hE
    refine Ev.step (fun k => by rw [begin_Cover.l0]) (Ev.neg (by omega) (Ev.eq (Ev.now _) ?_))
    have e : decide ((E : Int) ≥ (w.length : Int)) = decide (w.length ≤ covE w u 0 i E) := by
      rw [decide_eq_decide]
      show ((E : Int) ≥ (w.length : Int)) ↔ w.length ≤ E
      constructor <;> intro h <;> omega
    rw [e]
  | succ d ih =>
    intro i E hi hE
    refine Ev.step (fun k => by rw [begin_Cover.l0]) (Ev.pos (by omega) (Ev.pos (by omega) (Ev.pos (by omega) ?_)))
    rw [Int.toNat_natCast]
    refine Ev.bindc (pre_spec (w.drop i) u (isB_drop hw i) hu (by rw [List.length_drop]; omega) hl2) ?_
    rw [w64 (n := (i : Int) + 1) (by omega) (by omega), w64 (n := (i : Int) + (u.length : Int)) (by omega) (by omega), show decide (occ (w.drop i) u 0) = decide (occ w u i) by rw [decide_eq_decide]; exact occ_drop w u i (by omega)]
    simp only [covE]
    by_cases h : occ w u i
    · refine Ev.pos (by simpa using h) ?_
      by_cases h2 : i ≤ E
      · refine Ev.pos (by omega) ?_
        simp only [if_pos (show occ w u i ∧ i ≤ E from ⟨h, h2⟩)]
        have := ih (i + 1) (i + u.length) (by omega) (by omega)
        rw [Int.natCast_add] at this
        exact this
      · refine Ev.neg (by omega) ?_
        simp only [if_neg (show ¬ (occ w u i ∧ i ≤ E) from fun c => h2 c.2)]
        exact ih (i + 1) E (by omega) hE
    · refine Ev.neg (by simpa using h) ?_
      simp only [if_neg (show ¬ (occ w u i ∧ i ≤ E) from fun c => h c.1)]
      exact ih (i + 1) E (by omega) hE
def covers (w u : List Int) : Prop := ∀ x, x < w.length → ∃ j, occ w u j ∧ j ≤ x ∧ x < j + u.length
theorem covE_iff (w u : List Int) (hu : 0 < u.length) : ∀ (d i E : Nat), i + d = w.length → (∀ x, x < E → ∃ j, j < i ∧ occ w u j ∧ j ≤ x ∧ x < j + u.length) → (∀ j, j < i → occ w u j → j ≤ E → j + u.length ≤ E) →
    (w.length ≤ covE w u d i E ↔ covers w u) := by
  intro d
  induction d with
  | zero =>
    intro i E hi ha hb
    simp only [covE]
    constructor
    · intro h x hx
      obtain ⟨j, _, h1⟩ := ha x (by omega)
      exact ⟨j, h1⟩
    · intro h
      rcases Nat.lt_or_ge E w.length with c | c
      · obtain ⟨j, h1, h2, h3⟩ := h E c
        have := hb j (by omega) h1 h2
        omega
      · exact c
  | succ d ih =>
    intro i E hi ha hb
    simp only [covE]
    by_cases c : occ w u i ∧ i ≤ E
    · rw [if_pos c]
      refine ih (i + 1) (i + u.length) (by omega) (fun x hx => ?_) (fun j hj _ _ => by omega)
      rcases Nat.lt_or_ge x E with h | h
      · obtain ⟨j, h1, h2⟩ := ha x h
        exact ⟨j, by omega, h2⟩
      · exact ⟨i, by omega, c.1, by omega, hx⟩
    · rw [if_neg c]
      refine ih (i + 1) E (by omega) (fun x hx => ?_) (fun j hj h1 h2 => ?_)
      · obtain ⟨j, h1, h2⟩ := ha x hx
        exact ⟨j, by omega, h2⟩
      · rcases Nat.lt_or_ge j i with h | h
        · exact hb j h h1 h2
        · obtain rfl : j = i := by omega
          exact absurd ⟨h1, h2⟩ c
noncomputable def covR (w u : List Int) : Bool × Int := if 60 < w.length ∨ 60 < u.length then (false, 1) else if u.length = 0 then (false, 2) else (@decide (covers w u) (Classical.propDecidable _), 0)
theorem cover_spec (w u : List Int) (hw : isB w) (hu : isB u) : Ev (fun k => begin_Cover.f k w u) (covR w u) := by
  unfold begin_Cover.f covR
  by_cases h1 : 60 < w.length
  · rw [if_pos (.inl h1)]
    exact Ev.pos (by omega) (Ev.step (fun k => by rw [begin_Cover.j0]) (Ev.pos rfl (Ev.now _)))
  refine Ev.neg (by omega) (Ev.step (fun k => by rw [begin_Cover.j0]) ?_)
  by_cases h2 : 60 < u.length
  · rw [if_pos (.inr h2)]
    exact Ev.pos (by simp <;> omega) (Ev.now _)
  rw [if_neg (by omega)]
  refine Ev.neg (by simp <;> omega) ?_
  by_cases h3 : u.length = 0
  · rw [if_pos h3]; exact Ev.pos (by omega) (Ev.now _)
  rw [if_neg h3]
  refine Ev.neg (by omega) (Ev.eq (cov_loop w u hw hu (by omega) (by omega) w.length 0 0 (by omega) (by omega)) ?_)
  simp only [Prod.mk.injEq, and_true, decide_eq_decide]
  exact covE_iff w u (by omega) w.length 0 0 (by omega) (fun x h => by omega) (fun j h => by omega)
theorem at_spec (w u : List Int) (i : Int) (hl : w.length ≤ 60) (hl2 : u.length ≤ 60) (h0 : 0 ≤ i) (h1 : i ≤ (w.length : Int) - u.length) (h : occ w u i.toNat) : Ev (fun k => coppicerref_At.f k w u i) true := by
  unfold coppicerref_At.f
  rw [w64 (n := (w.length : Int) - u.length) (by omega) (by omega), w64 (n := i + u.length) (by omega) (by omega)]
  refine Ev.pos h0 (Ev.pos h1 (Ev.pos h0 (Ev.pos (by omega) (Ev.pos (by omega) (Ev.bind (by_spec _ _ (by simp <;> omega)) (Ev.eq (Ev.now _) ?_))))))
  have e : (i + (u.length : Int)).toNat = i.toNat + u.length := by omega
  rw [decide_eq_true_iff, e, List.drop_take, show i.toNat + u.length - i.toNat = u.length by omega]
  exact h.2
theorem occ_trans {w u v : List Int} {i j : Nat} (h1 : occ w u i) (h2 : occ u v j) : occ w v (i + j) := by
  obtain ⟨a, b⟩ := h1
  obtain ⟨c, d⟩ := h2
  refine ⟨by omega, ?_⟩
  have e : ((w.drop i).take u.length).drop j = (w.drop (i + j)).take (u.length - j) := by rw [List.drop_take, List.drop_drop]
  rw [b] at e
  rw [e, List.take_take, Nat.min_eq_left (by omega)] at d
  exact d
theorem BeginCover : coppicerkeep_BeginCover.Pure := by
  intro w u v ⟨_, hlw, hw⟩ ⟨_, hlu, hu⟩ ⟨_, hlv, hv⟩
  have hw := isB_wf hw
  have hu := isB_wf hu
  have hv := isB_wf hv
  refine Ev.rounds ?_
  unfold coppicerkeep_BeginCover.f
  refine Ev.bind (cover_spec w u hw hu) (Ev.bind (cover_spec u v hu hv) (Ev.bind (lon_spec _ (by simp)) ?_))
  have bad : (60 < w.length ∨ 60 < u.length ∨ 60 < v.length ∨ u.length = 0 ∨ v.length = 0) → Ev (fun k => coppicerkeep_BeginCover.j0 k w u v (covR w u).1 (covR w u).2 (covR u v).1 (covR u v).2 true) true := by
    intro h
    refine Ev.step (fun k => by rw [coppicerkeep_BeginCover.j0]) (Ev.pos rfl ?_)
    by_cases e : (covR w u).2 = 0
    · refine Ev.pos e (Ev.eq (Ev.now _) ?_)
      unfold covR at e ⊢
      split at e
      · simp at e
      · split at e
        · simp at e
        · by_cases h2 : 60 < u.length ∨ 60 < v.length
          · rw [if_pos h2]; decide
          · rw [if_neg h2, if_pos (by omega)]; decide
    · exact Ev.neg e (Ev.now _)
  by_cases hbig : 60 < w.length ∨ 60 < u.length ∨ 60 < v.length
  · exact Ev.pos (by simpa [any60] using hbig) (bad (by omega))
  refine Ev.neg (by simpa [any60] using hbig) ?_
  by_cases hu0 : u.length = 0
  · exact Ev.pos (by omega) (bad (by omega))
  refine Ev.neg (by omega) ?_
  by_cases hv0 : v.length = 0
  · rw [show ((v.length : Int) == 0) = true by simp; exact List.length_eq_zero_iff.1 hv0]; exact bad (by omega)
  rw [show ((v.length : Int) == 0) = false by simp; intro h; exact hv0 (by rw [h]; rfl)]
  have c1 : covR w u = (@decide (covers w u) (Classical.propDecidable _), 0) := by unfold covR; rw [if_neg (by omega), if_neg hu0]
  have c2 : covR u v = (@decide (covers u v) (Classical.propDecidable _), 0) := by unfold covR; rw [if_neg (by omega), if_neg hv0]
  have c3 : covR w v = (@decide (covers w v) (Classical.propDecidable _), 0) := by unfold covR; rw [if_neg (by omega), if_neg hv0]
  have c4 : covR u u = (true, 0) := by
    unfold covR; rw [if_neg (by omega), if_neg hu0]
    simp only [Prod.mk.injEq, and_true, decide_eq_true_iff]
    intro x hx
    exact ⟨0, ⟨by omega, by simp⟩, by omega, by omega⟩
  refine Ev.step (fun k => by rw [coppicerkeep_BeginCover.j0]) (Ev.neg (by simp) (Ev.bind (cover_spec w v hw hv) (Ev.bind (cover_spec u u hu hu) ?_)))
  rw [c1, c2, c3, c4]
  refine Ev.pos rfl (Ev.pos rfl (Ev.pos rfl (Ev.pos rfl (Ev.step (fun k => by rw [coppicerkeep_BeginCover.j1]) (Ev.neg (by simp) ?_)))))
  by_cases a : covers w u
  · refine Ev.pos (by simpa using a) ?_
    have tail : Ev (fun k => if (@decide (covers u v) (Classical.propDecidable _)) = true then (some (@decide (covers w v) (Classical.propDecidable _))) else (some true)) true := by
      by_cases b : covers u v
      · refine Ev.pos (by simpa using b) (Ev.eq (Ev.now _) ?_)
        simp only [decide_eq_true_iff]
        intro x hx
        obtain ⟨j, h1, h2, h3⟩ := a x hx
        obtain ⟨i, h4, h5, h6⟩ := b (x - j) (by omega)
        exact ⟨j + i, occ_trans h1 h4, by omega, by omega⟩
      · exact Ev.neg (by simpa using b) (Ev.now _)
    by_cases h0 : (w.length : Int) > 0
    · refine Ev.pos h0 ?_
      obtain ⟨j, h1, h2, h3⟩ := a 0 (by omega)
      obtain rfl : j = 0 := by omega
      obtain ⟨m, g1, g2, g3⟩ := a (w.length - 1) (by omega)
      have gm : m = w.length - u.length := by have := g1.1; omega
      subst gm
      rw [w64 (n := (w.length : Int) - u.length) (by omega) (by omega)]
      refine Ev.bind (at_spec w u 0 (by omega) (by omega) (by omega) (by have := h1.1; omega) h1) (Ev.pos rfl ?_)
      refine Ev.bind (at_spec w u _ (by omega) (by omega) (by have := g1.1; omega) (Int.le_refl _) ?_) (Ev.pos rfl tail)
      rw [show ((w.length : Int) - u.length).toNat = w.length - u.length by omega]
      exact g1
    · exact Ev.neg h0 tail
  · exact Ev.neg (by simpa using a) (Ev.now _)
end Go.Proofs.Ytancbigkdjbhnaa.Pure
