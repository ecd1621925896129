/- Words on words in plain Lean: machine.Words, the reference's check, and the guard of the statements on tables. -/
import Derived.Test.YthgiiikjcfhgjaaPUGrammar
import Derived.Test.YthgiiikjcfhgjaaGU3
import Derived.Test.YthgiiikjcfhgjaaGU9
namespace Go.Proofs.Ythgiiikjcfhgjaa.PUM
set_option linter.unusedVariables false
set_option linter.unusedSimpArgs false
open Go.RowKit Go.Proofs.Ythgiiikjcfhgjaa.GU Go.Proofs.YthgiiikjcfhgjaaW.PrintWords Go.Proofs.YthgiiikjcfhgjaaW.PrintLast Go.Proofs.YthgiiikjcfhgjaaW.PrintMore

/-- A word that fits its symbols. -/
def GoodW (k : Int) (w : List Int) : Prop := w.length ≤ 12 ∧ ∀ s ∈ w, 0 ≤ s ∧ s < k
theorem words_spec (k : Int) (w : List Int) : ∃ e, machine_Words.f k w = some e ∧ (e = 0 ↔ GoodW k w) := by
  refine ⟨_, rfl, ?_⟩
  unfold GoodW
  by_cases h : w.length > 12
  · rw [if_pos h]
    exact ⟨fun h' => absurd h' (by decide), fun h' => by omega⟩
  · rw [if_neg h]
    by_cases h2 : w.any (fun s => decide (s < 0) || decide (s ≥ k)) = true
    · rw [if_pos h2]
      refine ⟨fun h' => absurd h' (by decide), fun h' => ?_⟩
      rw [List.any_eq_true] at h2
      obtain ⟨s, hs, hb⟩ := h2
      have := h'.2 s hs
      simp at hb
      omega
    · rw [if_neg h2]
      refine ⟨fun _ => ⟨by omega, fun s hs => ?_⟩, fun _ => rfl⟩
      have := fun h3 => h2 (List.any_eq_true.2 ⟨s, hs, h3⟩)
      simp at this
      omega
def okN (n : Int) (x : Int) : Bool := decide (0 ≤ x) && decide (x < n)
theorem okN_iff {n x : Int} : okN n x = true ↔ 0 ≤ x ∧ x < n := by simp [okN]
theorem wordcheck_loop (k : Int) (w : List Int) (hw : w.length ≤ 12) : ∀ (d i : Nat), i + d = w.length → Ev (fun q => coppicerref_WordCheck.l0 q k w (w.length : Int) (i : Int)) (if (w.drop i).all (okN k) = true then 0 else 2) := by
  intro d
  induction d with
  | zero =>
    intro i hi
    refine Ev.step (fun q => by rw [coppicerref_WordCheck.l0]) (Ev.neg (by omega) ?_)
    rw [List.drop_eq_nil_of_le (by omega)]
    exact Ev.now _
  | succ d ih =>
    intro i hi
    have hlt : i < w.length := by omega
    refine Ev.step (fun q => by rw [coppicerref_WordCheck.l0]) (Ev.pos (by omega) (Ev.pos (by omega) (Ev.pos (by omega) ?_)))
    rw [rd_nat, drop_cons hlt 0, List.all_cons]
    generalize w.getD i 0 = x
    by_cases h1 : x < 0
    · refine Ev.pos h1 ?_
      rw [show okN k x = false by simp [okN]; omega]
      exact Ev.now _
    · refine Ev.neg h1 ?_
      by_cases h2 : x ≥ k
      · refine Ev.pos h2 ?_
        rw [show okN k x = false by simp [okN]; omega]
        exact Ev.now _
      · refine Ev.neg h2 ?_
        rw [show okN k x = true by simp [okN]; omega, Bool.true_and, w64 (n := (i : Int) + 1) (by omega) (by omega)]
        exact ih (i + 1) (by omega)
theorem wordcheck_spec (k : Int) (w : List Int) : ∃ e, Ev (fun q => coppicerref_WordCheck.f q k w) e ∧ (e = 0 ↔ GoodW k w) := by
  unfold GoodW
  by_cases h : (w.length : Int) > 12
  · exact ⟨1, Ev.congr (fun q => by rw [coppicerref_WordCheck.f]) (Ev.pos h (Ev.now _)), fun h' => absurd h' (by decide), fun h' => by omega⟩
  · refine ⟨_, Ev.congr (f := fun q => if (w.length : Int) > 12 then some 1 else coppicerref_WordCheck.l0 q k w (w.length : Int) ((0 : Nat) : Int)) (fun q => by rw [coppicerref_WordCheck.f]; rfl) (Ev.neg h (wordcheck_loop k w (by omega) w.length 0 (by omega))), ?_⟩
    rw [List.drop_zero]
    by_cases h2 : w.all (okN k) = true
    · rw [if_pos h2]
      refine ⟨fun _ => ⟨by omega, fun s hs => okN_iff.1 (List.all_eq_true.1 h2 s hs)⟩, fun _ => rfl⟩
    · rw [if_neg h2]
      refine ⟨fun h' => absurd h' (by decide), fun h' => absurd (List.all_eq_true.2 fun s hs => okN_iff.2 (h'.2 s hs)) h2⟩

theorem grown_spec {k n s : Int} {rs : List S126} (w : List Int) : ∃ b, Ev (fun q => coppicerkeep_grown.f q k n s rs w) b ∧ (b = true ↔ GoodG k n s rs ∧ GoodW k w) := by
  obtain ⟨e, he, hi⟩ := rcheck_spec (k := k) (n := n) (s := s) (rs := rs)
  obtain ⟨e2, he2, hi2⟩ := wordcheck_spec k w
  by_cases c : e = 0
  · refine ⟨e2 == 0, Ev.congr (fun q => by rw [coppicerkeep_grown.f]) (Ev.bind he (Ev.pos c (Ev.bind (f := fun _ t => some (t == 0)) he2 (Ev.now _)))), ?_⟩
    rw [beq_iff_eq, hi2]
    exact ⟨fun h => ⟨hi.1 c, h⟩, fun h => h.2⟩
  · refine ⟨_, Ev.congr (fun q => by rw [coppicerkeep_grown.f]) (Ev.bind he (Ev.neg c (Ev.now _))), ?_⟩
    exact ⟨fun h => absurd h (by decide), fun h => absurd (hi.2 h.1) c⟩
end Go.Proofs.Ythgiiikjcfhgjaa.PUM
