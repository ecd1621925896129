/- The law EditShared, as plain Lean: what two words share is inside of both, no word inside of both is longer, and it bounds their distance. Conditions: none beyond the kinds of the arguments. -/
import Derived.Test.YtkjhddjenkocjaaPEShared
import Derived.Test.YtkjhddjenkocjaaGE5
namespace Go.Proofs.Ytkjhddjenkocjaa.Pure
set_option linter.unusedVariables false
set_option linter.unusedSimpArgs false
open Go.RowKit Go.Proofs.Ytkjhddjenkocjaa.GE Go.Proofs.Ytkjhddjenkocjaa.PureL Go.Proofs.YtkjhddjenkocjaaW.PrintWords Go.Proofs.YtkjhddjenkocjaaW.PrintLast

theorem EditShared : coppicerkeep_EditShared.Pure := by
  intro u v x _ _ _
  obtain ⟨s, e, hs, he1, he0⟩ := shared_spec u v
  refine Ev.rounds ?_
  refine Ev.congr (fun q => by rw [coppicerkeep_EditShared.f]) ?_
  refine Ev.bind hs (Ev.bind (lon_spec _ (by simp)) ?_)
  by_cases h : 60 < u.length ∨ 60 < v.length
  · refine Ev.pos (by simp [any60]; omega) (Ev.val ?_)
    rw [he1 h]; rfl
  · refine Ev.neg (by simp [any60]; omega) ?_
    obtain ⟨rfl, hB⟩ := he0 (by omega) (by omega)
    have l1 := hB.l.length_le
    have l2 := hB.r.length_le
    have lv := lev_shared hB.l hB.r
    have i1 := inside_spec s u
    have i2 := inside_spec s v
    have i3 := inside_spec x u
    have i4 := inside_spec x v
    have f1 := far_spec u v
    rw [if_neg (by omega), decide_eq_true hB.l] at i1
    rw [if_neg (by omega), decide_eq_true hB.r] at i2
    rw [farR, if_neg h] at f1
    refine Ev.bind i1 (Ev.bind i2 (Ev.bind f1 (Ev.pos rfl (Ev.pos rfl (Ev.pos rfl (Ev.pos rfl (Ev.pos rfl (Ev.pos rfl ?_))))))))
    rw [w64 (n := (u.length : Int) + (v.length : Int)) (by omega) (by omega), w64 (n := 2 * (s.length : Int)) (by omega) (by omega), w64 (by omega) (by omega)]
    refine Ev.step (fun k => by rw [coppicerkeep_EditShared.j0]) (Ev.neg (by simp <;> omega) ?_)
    by_cases hx : 60 < x.length
    · rw [if_pos (.inl hx)] at i3 i4
      exact Ev.bind i3 (Ev.bind i4 (Ev.neg (by decide) (Ev.now _)))
    · rw [if_neg (by omega)] at i3 i4
      refine Ev.bind i3 (Ev.bind i4 (Ev.pos rfl (Ev.pos rfl ?_)))
      by_cases c1 : x.Sublist u
      · refine Ev.pos (decide_eq_true c1) ?_
        by_cases c2 : x.Sublist v
        · refine Ev.pos (decide_eq_true c2) (Ev.val ?_)
          have := hB.m x c1 c2
          simp <;> omega
        · exact Ev.neg (by simpa using c2) (Ev.now _)
      · exact Ev.neg (by simpa using c1) (Ev.now _)
end Go.Proofs.Ytkjhddjenkocjaa.Pure
