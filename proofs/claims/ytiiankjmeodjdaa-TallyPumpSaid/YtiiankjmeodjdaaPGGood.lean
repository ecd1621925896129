/- Words on machines in plain Lean: what the guards of the statements answer. Conditions: none beyond the kinds of the arguments. -/
import Derived.Test.YtiiankjmeodjdaaPGMcheck
import Derived.Test.YtiiankjmeodjdaaPGWcheck
import Derived.Test.YtiiankjmeodjdaaGG6
namespace Go.Proofs.Ytiiankjmeodjdaa.PGM
set_option linter.unusedVariables false
set_option linter.unusedSimpArgs false
open Go.RowKit Go.Proofs.Ytiiankjmeodjdaa.GG Go.Proofs.YtiiankjmeodjdaaW.PrintWords Go.Proofs.YtiiankjmeodjdaaW.PrintLast Go.Proofs.YtiiankjmeodjdaaW.PrintMore

theorem good_spec {n k : Int} {nx : List (List Int)} {s f : Int} (h0 : 0 ≤ f) (h1 : f < 4294967296) (w : List Int) : ∃ b, Ev (fun q => coppicerkeep_good.f q n k nx s f w) b ∧ (b = true ↔ GoodM n k nx s f ∧ GoodW k w) := by
  obtain ⟨e, he, hi⟩ := refcheck_spec (n := n) (k := k) (nx := nx) (s := s) h0 h1
  obtain ⟨e2, he2, hi2⟩ := wordcheck_spec k w
  by_cases c : e = 0
  · refine ⟨e2 == 0, Ev.congr (fun q => by rw [coppicerkeep_good.f]) (Ev.bind he (Ev.pos c (Ev.bind (f := fun _ t => some (t == 0)) he2 (Ev.now _)))), ?_⟩
    rw [beq_iff_eq, hi2]
    exact ⟨fun h => ⟨hi.1 c, h⟩, fun h => h.2⟩
  · refine ⟨_, Ev.congr (fun q => by rw [coppicerkeep_good.f]) (Ev.bind he (Ev.neg c (Ev.now _))), ?_⟩
    exact ⟨fun h => absurd h (by decide), fun h => absurd (hi.2 h.1) c⟩

end Go.Proofs.Ytiiankjmeodjdaa.PGM
