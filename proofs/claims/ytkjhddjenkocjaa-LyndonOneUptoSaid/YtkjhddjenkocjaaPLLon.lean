/- Words of bytes, as plain Lean: what the law's own 'long' answers. -/
import Derived.Test.YtkjhddjenkocjaaGL2
import Derived.Test.YtkjhddjenkocjaaEv
namespace Go.Proofs.Ytkjhddjenkocjaa.PureL
set_option linter.unusedVariables false
set_option linter.unusedSimpArgs false
open Go.RowKit Go.Proofs.Ytkjhddjenkocjaa.GL Go.Proofs.YtkjhddjenkocjaaW.PrintWords Go.Proofs.YtkjhddjenkocjaaW.PrintLast
def isB (l : List Int) : Prop := ∀ x ∈ l, 0 ≤ x ∧ x ≤ 255
theorem isB_take {l : List Int} (h : isB l) (n : Nat) : isB (l.take n) := fun x hx => h x (List.mem_of_mem_take hx)
theorem isB_drop {l : List Int} (h : isB l) (n : Nat) : isB (l.drop n) := fun x hx => h x (List.mem_of_mem_drop hx)
theorem isB_wf {l : List Int} (h : ∀ y_ ∈ l, (Lit.int .u8 y_).wf = true) : isB l := fun x hx => wf_u8 (h x hx)
def any60 (xs : List (List Int)) : Bool := xs.any fun x => decide (60 < x.length)
theorem lon_loop (xs : List (List Int)) (hl : xs.length ≤ 100) : ∀ (d i : Nat), i + d = xs.length → Ev (fun k => coppicerkeep_long.l0 k xs (xs.length : Int) (i : Int)) (any60 (xs.drop i)) := by
  intro d
  induction d with
  | zero =>
    intro i hi
    refine Ev.step (fun k => by rw [coppicerkeep_long.l0]) (Ev.neg (by omega) (Ev.eq (Ev.now _) ?_))
    rw [List.drop_eq_nil_of_le (by omega)]; rfl
  | succ d ih =>
    intro i hi
    refine Ev.step (fun k => by rw [coppicerkeep_long.l0]) (Ev.pos (by omega) (Ev.pos (by omega) (Ev.pos (by omega) ?_)))
    have e : rd_L1 xs (i : Int) = xs[i]'(by omega) := by simp [rd_L1, List.getD_eq_getElem?_getD, List.getElem?_eq_getElem (by omega : i < xs.length)]
    rw [e, List.drop_eq_getElem_cons (by omega : i < xs.length), w64 (by omega) (by omega)]
    by_cases h : 60 < (xs[i]'(by omega)).length
    · exact Ev.pos (by omega) (Ev.eq (Ev.now _) (by simp only [any60, List.any_cons]; rw [decide_eq_true h, Bool.true_or]))
    · exact Ev.neg (by omega) (Ev.eq (ih (i + 1) (by omega)) (by simp only [any60, List.any_cons]; rw [decide_eq_false h, Bool.false_or]))
theorem lon_spec (xs : List (List Int)) (hl : xs.length ≤ 100) : Ev (fun k => coppicerkeep_long.f k xs) (any60 xs) := by
  unfold coppicerkeep_long.f
  exact lon_loop xs hl xs.length 0 (by omega)
end Go.Proofs.Ytkjhddjenkocjaa.PureL
