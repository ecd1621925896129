/- The law BracketMany, as plain Lean: for every int n the recurrence of the Catalan numbers holds of bracket.Many (or n is outside the limits and an error is told). Conditions: none. -/
import Derived.Test.YtancbigkdjbhnaaGA14
import Derived.Test.YtancbigkdjbhnaaEv
namespace Go.Proofs.Ytancbigkdjbhnaa.Pure
set_option linter.unusedVariables false
set_option linter.unusedSimpArgs false
open Go.RowKit Go.Proofs.Ytancbigkdjbhnaa.GA Go.Proofs.YtancbigkdjbhnaaW.PrintWords Go.Proofs.YtancbigkdjbhnaaW.PrintLast

theorem bm_vals : ∀ i : Fin 9, (bracket_Many.f 400 (i.val : Int)) = some (([1, 1, 2, 5, 14, 42, 132, 429, 1430] : List Int).getD i.val 0, 0) := by decide +kernel
theorem bm_neg (k : Nat) (n : Int) (h : n < 0) : bracket_Many.f k n = some (0, 1) := by unfold bracket_Many.f; rw [if_pos h]
theorem bm_big (k : Nat) (n : Int) (h : 8 < n) : bracket_Many.f k n = some (0, 1) := by unfold bracket_Many.f; rw [if_neg (by omega), if_pos (by omega)]
theorem bm_law : ∀ i : Fin 8, coppicerkeep_BracketMany.f 400 (i.val : Int) = some true := by decide +kernel

theorem BracketMany : coppicerkeep_BracketMany.Pure := by
  intro a0 hw
  have hb : -9223372036854775808 ≤ a0 ∧ a0 ≤ 9223372036854775807 := by
    exact wf_i64 hw
  refine ⟨400, ?_⟩
  by_cases h0 : a0 < 0
  · unfold coppicerkeep_BracketMany.f
    rw [bm_neg 400 a0 h0]
    by_cases h1 : a0 = -1
    · subst h1
      have := bm_vals 0
      simp only [Option.bind_some]
      rw [show wrap64 (-1 + 1) = (((0 : Fin 9).val : Nat) : Int) from by unfold wrap64; decide, this]
      simp
    · rw [show wrap64 (a0 + 1) = a0 + 1 from by unfold wrap64; omega, bm_neg 400 (a0 + 1) (by omega)]
      simp [h0]
  · by_cases h8 : a0 < 8
    · obtain ⟨n, rfl⟩ : ∃ n : Nat, a0 = n := ⟨a0.toNat, by omega⟩
      exact bm_law ⟨n, by omega⟩
    · unfold coppicerkeep_BracketMany.f
      have e : bracket_Many.f 400 (wrap64 (a0 + 1)) = some (0, 1) := by
        by_cases hm : a0 = 9223372036854775807
        · subst hm
          exact bm_neg _ _ (by unfold wrap64; decide)
        · rw [show wrap64 (a0 + 1) = a0 + 1 from by unfold wrap64; omega]
          exact bm_big _ _ (by omega)
      have e2 : ∃ p, bracket_Many.f 400 a0 = some p := by
        by_cases h9 : a0 = 8
        · subst h9; exact ⟨_, bm_vals 8⟩
        · exact ⟨_, bm_big _ _ (by omega)⟩
      obtain ⟨p, hp⟩ := e2
      rw [hp, e]
      simp only [Option.bind_some]
      rw [if_neg h0, if_pos (by omega), if_neg (by decide)]

end Go.Proofs.Ytancbigkdjbhnaa.Pure
