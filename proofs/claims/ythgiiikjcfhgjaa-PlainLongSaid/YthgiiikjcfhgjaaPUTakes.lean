/- Words on tables in plain Lean: what table.Takes answers. -/
import Derived.Test.YthgiiikjcfhgjaaPUNames
import Derived.Test.YthgiiikjcfhgjaaGU6
namespace Go.Proofs.Ythgiiikjcfhgjaa.PUM
set_option linter.unusedVariables false
set_option linter.unusedSimpArgs false
open Go.RowKit Go.Proofs.Ythgiiikjcfhgjaa.GU Go.Proofs.YthgiiikjcfhgjaaW.PrintWords Go.Proofs.YthgiiikjcfhgjaaW.PrintLast Go.Proofs.YthgiiikjcfhgjaaW.PrintMore

theorem takes_good {k n s : Int} {w : List Int} {rs : List S126} (g : GoodG k n s rs) (gw : GoodW k w) : ∃ (T : List (List Int)) (b : Bool), Filled k n w rs T ∧ (b = true ↔ famT T s 0 w.length) ∧ Ev (fun q => table_Takes.f q k n s rs w) (b, 0) := by
  obtain ⟨T, S, F, hS, hSb, hN⟩ := names_good g gw
  have hp : 2 ^ n.toNat ≤ 128 := pow_le7 (by have := g.n5; omega)
  have hs0 := g.s0
  have hs1 := g.s1
  refine ⟨T, S.testBit s.toNat, F, ?_, Ev.congr (fun q => by rw [table_Takes.f]) ?_⟩
  · rw [hSb, show ((s.toNat : Nat) : Int) = s by omega, decide_eq_true hs1, Bool.true_and]
    exact Iff.rfl
  · refine Ev.bind hN (Ev.val ?_)
    rw [show mx s 0 = s by unfold mx; split <;> omega, shr_bit (by omega) (by omega) hs0, bit_nat]
    cases S.testBit s.toNat <;> rfl
theorem takes_bad {k n s : Int} {w : List Int} {rs : List S126} (h : ¬ (GoodG k n s rs ∧ GoodW k w)) : ∃ (b : Bool) (e : Int), e ≠ 0 ∧ Ev (fun q => table_Takes.f q k n s rs w) (b, e) := by
  obtain ⟨e, he, hN⟩ := names_bad h
  exact ⟨_, e, he, Ev.congr (fun q => by rw [table_Takes.f]) (Ev.bind hN (Ev.now _))⟩
end Go.Proofs.Ythgiiikjcfhgjaa.PUM
