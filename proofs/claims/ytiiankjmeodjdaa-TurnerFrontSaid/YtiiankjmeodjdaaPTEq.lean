/- Words on rows of numbers in plain Lean: the reference's Ints. -/
import Derived.Test.YtiiankjmeodjdaaPTMachine0
import Derived.Test.YtiiankjmeodjdaaGT6
namespace Go.Proofs.Ytiiankjmeodjdaa.PTM
set_option linter.unusedVariables false
set_option linter.unusedSimpArgs false
open Go.RowKit Go.Proofs.Ytiiankjmeodjdaa.GT Go.Proofs.YtiiankjmeodjdaaW.PrintWords Go.Proofs.YtiiankjmeodjdaaW.PrintLast Go.Proofs.YtiiankjmeodjdaaW.PrintMore

theorem ints_loop (a b : List Int) (hl : a.length = b.length) (hb : a.length ≤ 1000) : ∀ (d i : Nat), i + d = a.length → Ev (fun q => coppicerref_Ints.l0 q a b (i : Int)) (decide (a.drop i = b.drop i)) := by
  intro d
  induction d with
  | zero =>
    intro i hi
    rw [List.drop_eq_nil_of_le (by omega), List.drop_eq_nil_of_le (by omega)]
    refine Ev.step (fun q => by rw [coppicerref_Ints.l0]) ?_
    refine Ev.neg (by omega) ?_
    exact Ev.now _
  | succ d ih =>
    intro i hi
    rw [drop_cons (l := a) (by omega) 0, drop_cons (l := b) (by omega) 0]
    refine Ev.step (fun q => by rw [coppicerref_Ints.l0]) ?_
    refine Ev.pos (by omega) ?_
    refine Ev.pos (by omega) ?_
    refine Ev.pos (by omega) ?_
    rw [rd_nat, rd_nat, w64 (n := (i : Int) + 1) (by omega) (by omega)]
    by_cases c : a.getD i 0 = b.getD i 0
    · refine Ev.pos c ?_
      have := ih (i + 1) (by omega)
      rw [show decide (a.getD i 0 :: a.drop (i + 1) = b.getD i 0 :: b.drop (i + 1)) = decide (a.drop (i + 1) = b.drop (i + 1)) by rw [decide_eq_decide, c]; simp]
      exact this
    · refine Ev.neg c (Ev.val ?_)
      rw [decide_eq_false (fun h => c (by injection h))]
theorem ints_spec (a b : List Int) (hb : a.length ≤ 1000) : Ev (fun q => coppicerref_Ints.f q a b) (decide (a = b)) := by
  refine Ev.congr (fun q => by rw [coppicerref_Ints.f]) ?_
  by_cases c : (a.length : Int) = (b.length : Int)
  · refine Ev.pos c ?_
    have := ints_loop a b (by omega) hb a.length 0 (by omega)
    rw [List.drop_zero, List.drop_zero] at this
    exact this
  · refine Ev.neg c (Ev.val ?_)
    rw [decide_eq_false (fun h => c (by rw [h]))]
end Go.Proofs.Ytiiankjmeodjdaa.PTM
