/- Words of bytes, as plain Lean: what coppicerref.Bytes answers. -/
import Derived.Test.YtkjhddjenkocjaaPLLon
import Derived.Test.YtkjhddjenkocjaaGL1
namespace Go.Proofs.Ytkjhddjenkocjaa.PureL
set_option linter.unusedVariables false
set_option linter.unusedSimpArgs false
open Go.RowKit Go.Proofs.Ytkjhddjenkocjaa.GL Go.Proofs.YtkjhddjenkocjaaW.PrintWords Go.Proofs.YtkjhddjenkocjaaW.PrintLast
theorem by_loop (a b : List Int) (hl : a.length = b.length) (hm : a.length ≤ 140737488355328) : ∀ (d i : Nat), i + d = a.length → Ev (fun k => coppicerref_Bytes.l0 k a b (i : Int)) (decide (a.drop i = b.drop i)) := by
  intro d
  induction d with
  | zero =>
    intro i hi
    refine Ev.step (fun k => by rw [coppicerref_Bytes.l0]) ?_
    refine Ev.neg (by omega) (Ev.eq (Ev.now true) ?_)
    rw [List.drop_eq_nil_of_le (by omega), List.drop_eq_nil_of_le (by omega)]; simp
  | succ d ih =>
    intro i hi
    refine Ev.step (fun k => by rw [coppicerref_Bytes.l0]) ?_
    refine Ev.pos (by omega) (Ev.pos (by omega) (Ev.pos (by omega) ?_))
    have ha : a[i]'(by omega) = a.getD i 0 := by simp [List.getD_eq_getElem?_getD, List.getElem?_eq_getElem (by omega : i < a.length)]
    have hb : b[i]'(by omega) = b.getD i 0 := by simp [List.getD_eq_getElem?_getD, List.getElem?_eq_getElem (by omega : i < b.length)]
    rw [List.drop_eq_getElem_cons (by omega : i < a.length), List.drop_eq_getElem_cons (by omega : i < b.length), ha, hb, rd_nat, rd_nat, w64 (by omega) (by omega)]
    by_cases h : a.getD i 0 = b.getD i 0
    · refine Ev.pos h (Ev.eq (ih (i + 1) (by omega)) ?_)
      rw [h]; simp
    · refine Ev.neg h (Ev.eq (Ev.now false) ?_)
      simp only [List.cons.injEq, h, false_and, decide_false]
theorem by_spec (a b : List Int) (hm : a.length ≤ 140737488355328) : Ev (fun k => coppicerref_Bytes.f k a b) (decide (a = b)) := by
  unfold coppicerref_Bytes.f
  by_cases h : a.length = b.length
  · refine Ev.pos (by omega) (Ev.eq (by_loop a b h hm a.length 0 (by omega)) (by simp))
  · refine Ev.neg (by omega) (Ev.eq (Ev.now false) ?_)
    have : a ≠ b := fun e => h (by rw [e])
    simp [this]

end Go.Proofs.Ytkjhddjenkocjaa.PureL
