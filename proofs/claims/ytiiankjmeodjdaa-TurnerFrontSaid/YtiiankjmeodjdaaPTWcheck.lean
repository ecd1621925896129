/- Words on words in plain Lean: what the reference's check of words answers. Conditions: none. -/
import Derived.Test.YtiiankjmeodjdaaPTMachine0
import Derived.Test.YtiiankjmeodjdaaGT1
namespace Go.Proofs.Ytiiankjmeodjdaa.PTM
set_option linter.unusedVariables false
set_option linter.unusedSimpArgs false
open Go.RowKit Go.Proofs.Ytiiankjmeodjdaa.GT Go.Proofs.YtiiankjmeodjdaaW.PrintWords Go.Proofs.YtiiankjmeodjdaaW.PrintLast Go.Proofs.YtiiankjmeodjdaaW.PrintMore

theorem wordcheck_loop (k : Int) (w : List Int) (hw : w.length ≤ 12) : ∀ (d i : Nat), i + d = w.length → Ev (fun q => coppicerref_WordCheck.l0 q k w (w.length : Int) (i : Int)) (if (w.drop i).all (okN k) = true then 0 else 2) := by
  intro d
  induction d with
  | zero =>
    intro i hi
    refine Ev.step (fun q => by rw [coppicerref_WordCheck.l0]) (Ev.neg (by omega) ?_)
    rw [List.drop_eq_nil_of_le (by omega)]
    exact Ev.now _
  | succ d ih =>
    intro i hi
    have hlt : i < w.length := by omega
    refine Ev.step (fun q => by rw [coppicerref_WordCheck.l0]) (Ev.pos (by omega) (Ev.pos (by omega) (Ev.pos (by omega) ?_)))
    rw [rd_nat, drop_cons hlt 0, List.all_cons]
    generalize w.getD i 0 = x
    by_cases h1 : x < 0
    · refine Ev.pos h1 ?_
      rw [show okN k x = false by simp [okN]; omega]
      exact Ev.now _
    · refine Ev.neg h1 ?_
      by_cases h2 : x ≥ k
      · refine Ev.pos h2 ?_
        rw [show okN k x = false by simp [okN]; omega]
        exact Ev.now _
      · refine Ev.neg h2 ?_
        rw [show okN k x = true by simp [okN]; omega, Bool.true_and, w64 (n := (i : Int) + 1) (by omega) (by omega)]
        exact ih (i + 1) (by omega)
theorem wordcheck_spec (k : Int) (w : List Int) : ∃ e, Ev (fun q => coppicerref_WordCheck.f q k w) e ∧ (e = 0 ↔ GoodW k w) := by
  unfold GoodW
  by_cases h : (w.length : Int) > 12
  · exact ⟨1, Ev.congr (fun q => by rw [coppicerref_WordCheck.f]) (Ev.pos h (Ev.now _)), fun h' => absurd h' (by decide), fun h' => by omega⟩
  · refine ⟨_, Ev.congr (f := fun q => if (w.length : Int) > 12 then some 1 else coppicerref_WordCheck.l0 q k w (w.length : Int) ((0 : Nat) : Int)) (fun q => by rw [coppicerref_WordCheck.f]; rfl) (Ev.neg h (wordcheck_loop k w (by omega) w.length 0 (by omega))), ?_⟩
    rw [List.drop_zero]
    by_cases h2 : w.all (okN k) = true
    · rw [if_pos h2]
      refine ⟨fun _ => ⟨by omega, fun s hs => okN_iff.1 (List.all_eq_true.1 h2 s hs)⟩, fun _ => rfl⟩
    · rw [if_neg h2]
      refine ⟨fun h' => absurd h' (by decide), fun h' => absurd (List.all_eq_true.2 fun s hs => okN_iff.2 (h'.2 s hs)) h2⟩

end Go.Proofs.Ytiiankjmeodjdaa.PTM
