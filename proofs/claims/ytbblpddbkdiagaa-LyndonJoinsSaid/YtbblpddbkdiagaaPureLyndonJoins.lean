/- The law LyndonJoins, as plain Lean. Conditions: none beyond the kinds of the arguments. -/
import Derived.Test.YtbblpddbkdiagaaPureLow
namespace Go.Proofs.Ytbblpddbkdiagaa.Pure
set_option linter.unusedVariables false
set_option linter.unusedSimpArgs false
open Go.RowKit Go.Proofs.Ytbblpddbkdiagaa.GA Go.Proofs.Ytbblpddbkdiagaa.PureL Go.Proofs.YtbblpddbkdiagaaW.PrintWords Go.Proofs.YtbblpddbkdiagaaW.PrintLast

theorem lj_end (u v : List Int) (hu : u.length ≤ 60) (hv : v.length ≤ 60) (bu : isB u) (bv : isB v) : Ev (fun k => coppicerkeep_LyndonJoins.j1 k u v (lynB u) (lynB v) false) true := by
  refine Ev.step (fun k => by rw [coppicerkeep_LyndonJoins.j1]) (Ev.neg (by decide) ?_)
  have buv : isB (u ++ v) := fun x hx => by
    rcases List.mem_append.1 hx with h | h
    · exact bu x h
    · exact bv x h
  refine Ev.bindc (join_spec u v (by omega) (by omega)) (Ev.bind (is_spec _ buv) ?_)
  by_cases h : 60 < (u ++ v).length
  · rw [if_pos h]; exact Ev.neg (by decide) (Ev.now _)
  · rw [if_neg h]
    refine Ev.pos rfl ?_
    by_cases h1 : lynB u = true
    · refine Ev.pos h1 ?_
      by_cases h2 : lynB v = true
      · refine Ev.pos h2 (Ev.bind (less_spec u v (by omega)) ?_)
        by_cases h3 : u < v
        · refine Ev.pos (decide_eq_true h3) (Ev.eq (Ev.now _) ?_)
          exact (lynB_iff _).2 (lyn_join ((lynB_iff _).1 h1) ((lynB_iff _).1 h2) h3)
        · exact Ev.neg (by rw [decide_eq_true_iff]; exact h3) (Ev.now _)
      · exact Ev.neg h2 (Ev.now _)
    · exact Ev.neg h1 (Ev.now _)
theorem lj_mid (u v : List Int) (hu : u.length ≤ 60) (hv : v.length ≤ 60) (bu : isB u) (bv : isB v) : Ev (fun k => coppicerkeep_LyndonJoins.j0 k u v (lynB u) (lynB v) false) true := by
  refine Ev.step (fun k => by rw [coppicerkeep_LyndonJoins.j0]) (Ev.neg (by decide) ?_)
  by_cases h1 : lynB u = true
  · refine Ev.pos h1 ?_
    have hL := (lynB_iff _).1 h1
    have h0 := hL.1
    obtain ⟨p, hp, hr⟩ := root_spec u hu bu h0
    obtain rfl := lyn_root hL hp
    obtain ⟨out, g1, g2, g3⟩ := borders_spec u hu
    have hB : Ev (fun k => border_Borders.f k u) (out, 0) := by
      unfold border_Borders.f
      exact Ev.neg (by omega) (Ev.bind g3 (Ev.now _))
    refine Ev.bind hr (Ev.bind hB (Ev.pos rfl (Ev.pos rfl ?_)))
    refine Ev.pos (by simp only; rw [Nat.div_self h0]; rfl) (Ev.pos (by simp only; omega) ?_)
    dsimp only
    rw [g1, w64 (by omega) (by omega)]
    refine Ev.pos (by omega) (Ev.pos (by omega) ?_)
    obtain ⟨k, e1, e2⟩ := g2 u.length (by omega) (by omega)
    have hk := lyn_noborder hL e2.1
    subst hk
    rw [show (u.length : Int) - 1 = ((u.length - 1 : Nat) : Int) by omega, rd_nat, e1]
    exact lj_end u v hu hv bu bv
  · refine Ev.neg h1 ?_
    have buv : isB (u ++ v) := fun x hx => by
      rcases List.mem_append.1 hx with h | h
      · exact bu x h
      · exact bv x h
    refine Ev.bindc (join_spec u v (by omega) (by omega)) (Ev.bind (is_spec _ buv) ?_)
    by_cases h : 60 < (u ++ v).length
    · rw [if_pos h]; exact Ev.neg (by decide) (Ev.now _)
    · rw [if_neg h]; exact Ev.pos rfl (Ev.now _)
theorem LyndonJoins : coppicerkeep_LyndonJoins.Pure := by
  intro u v ⟨_, _, wu⟩ ⟨_, _, wv⟩
  have bu := isB_wf wu
  have bv := isB_wf wv
  refine Ev.rounds ?_
  unfold coppicerkeep_LyndonJoins.f
  refine Ev.bind (is_spec u bu) (Ev.bind (is_spec v bv) (Ev.bind (lon_spec _ (by simp)) ?_))
  by_cases h1 : 60 < u.length
  · rw [if_pos h1]
    exact Ev.pos (by simp [any60]; omega) (Ev.neg (by decide) (Ev.now _))
  · rw [if_neg h1]
    by_cases h2 : 60 < v.length
    · rw [if_pos h2]
      exact Ev.pos (by simp [any60]; omega) (Ev.pos rfl (Ev.now _))
    · rw [if_neg h2]
      refine Ev.neg (by simp [any60]; omega) (Ev.pos rfl (Ev.pos rfl (Ev.bind (low_spec u (by omega)) ?_)))
      rw [bne_self_eq_false]
      exact lj_mid u v (by omega) (by omega) bu bv
end Go.Proofs.Ytbblpddbkdiagaa.Pure
