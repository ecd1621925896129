/- The law NetMore, as plain Lean: an arc more, and no fewer states. Conditions: none beyond the kinds of the arguments. -/
import Derived.Test.YtiiankjmeodjdaaPFMore
import Derived.Test.YtiiankjmeodjdaaPFNetted
import Derived.Test.YtiiankjmeodjdaaGF7
namespace Go.Proofs.Ytiiankjmeodjdaa.Pure
set_option linter.unusedVariables false
set_option linter.unusedSimpArgs false
open Go.RowKit Go.Proofs.Ytiiankjmeodjdaa.GF Go.Proofs.Ytiiankjmeodjdaa.PFM Go.Proofs.YtiiankjmeodjdaaW.PrintWords Go.Proofs.YtiiankjmeodjdaaW.PrintLast Go.Proofs.YtiiankjmeodjdaaW.PrintMore

theorem NetMore : coppicerkeep_NetMore.Pure := by
  intro n k arcs st f p q t w _ _ wa wst wf _ _ _ _
  obtain ⟨s0, s1⟩ := wf_u32 wst
  obtain ⟨f0, f1⟩ := wf_u32 wf
  have s1' : st < 4294967296 := by omega
  have f1' : f < 4294967296 := by omega
  have hal := wa.2.1
  obtain ⟨b, hb, hbi⟩ := netted_spec (n := n) (k := k) (arcs := arcs) (st := st) (f := f) w
  refine Ev.rounds ?_
  by_cases g : GoodN n k arcs st f ∧ GoodW k w
  · obtain ⟨gn, gw⟩ := g
    have hr := net_run_good gn s0 s1' f0 f1' w gw
    have hpw := pow_le7 (m := n.toNat) (by have := gn.n7; omega)
    obtain ⟨e2, he2, hi2⟩ := refnet_spec (n := n) (k := k) (arcs := arcs ++ [(⟨p, q, t⟩ : S27)]) (st := st) (f := f)
    have pre : ∀ {ra : Int × Bool × Int} {r : Bool}, Ev (fun q' => net_Run.f q' n k (arcs ++ [(⟨p, q, t⟩ : S27)]) st f w) ra →
        Ev (fun q' => (coppicerref_NetCheck.f q' n k (arcs ++ [(⟨p, q, t⟩ : S27)]) st f).bind fun t146 => (if t146 = 0 then (if (0 : Int) = 0 then (if ra.2.2 = 0 then (if (Go.bits .andNot .u32 ((setN arcs st w : Nat) : Int) ra.1) = 0 then (if (w.length : Int) > 0 then (coppicerkeep_NetMore.j0 q' true) else (coppicerkeep_NetMore.j0 q' ((Go.bits .andNot .u32 st ((setN arcs st w : Nat) : Int)) == 0))) else (coppicerkeep_NetMore.j0 q' false)) else (coppicerkeep_NetMore.j0 q' false)) else (coppicerkeep_NetMore.j0 q' false)) else (if (0 : Int) = 0 then (some (ra.2.2 != 0)) else (some false)))) r →
        Ev (fun q' => coppicerkeep_NetMore.f q' n k arcs st f p q t w) r := by
      intro ra r h1 h2
      refine Ev.congr (fun q' => by rw [coppicerkeep_NetMore.f]) ?_
      refine Ev.bind hr ?_
      refine Ev.bind hb ?_
      refine Ev.pos (hbi.2 ⟨gn, gw⟩) ?_
      refine Ev.let_ ?_
      refine Ev.pos (by rw [List.length_nil]; omega) ?_
      refine Ev.let_ ?_
      refine Ev.let_ ?_
      rw [List.nil_append]
      refine Ev.pos (by rw [List.length_singleton]; omega) ?_
      refine Ev.let_ ?_
      refine Ev.bind h1 ?_
      exact h2
    by_cases c : e2 = 0
    · have gm := hi2.1 c
      have hm := net_run_good gm s0 s1' f0 f1' w gw
      refine pre hm ?_
      refine Ev.bind he2 ?_
      refine Ev.pos c ?_
      refine Ev.pos rfl ?_
      refine Ev.pos rfl ?_
      have hS : st.toNat < 2 ^ n.toNat := by
        obtain ⟨ST, rfl⟩ := Int.eq_ofNat_of_zero_le s0
        have h1 := gn.st
        rw [pow_cast] at h1
        exact Int.ofNat_lt.1 h1
      have l1 : setN arcs st w < 2 ^ n.toNat := leadsN_lt gn w (freeS_lt gn hS)
      have l2 : setN (arcs ++ [(⟨p, q, t⟩ : S27)]) st w < 2 ^ n.toNat := leadsN_lt gm w (freeS_lt gm hS)
      refine Ev.pos (andNot_zero (by omega) (by omega) (setN_mono gm s0 w)) ?_
      by_cases cw : (w.length : Int) > 0
      · refine Ev.pos cw ?_
        exact Ev.step (fun q' => by rw [coppicerkeep_NetMore.j0]) (Ev.now _)
      · refine Ev.neg cw ?_
        refine Ev.step (fun q' => by rw [coppicerkeep_NetMore.j0]) (Ev.val ?_)
        have hw : w = [] := List.eq_nil_of_length_eq_zero (by omega)
        subst hw
        have e : Go.bits .andNot .u32 ((st.toNat : Nat) : Int) ((setN arcs st [] : Nat) : Int) = 0 := andNot_zero (by omega) (by omega) (sub_free arcs 128 st.toNat)
        rw [Int.toNat_of_nonneg s0] at e
        rw [e]
        rfl
    · obtain ⟨e3, he30, he3⟩ := net_run_bad s0 s1' f0 f1' w (n := n) (k := k) (arcs := arcs ++ [(⟨p, q, t⟩ : S27)]) (fun h => c (hi2.2 h.1))
      refine pre he3 ?_
      refine Ev.bind he2 ?_
      refine Ev.neg c ?_
      refine Ev.pos rfl (Ev.val ?_)
      simpa using he30
  · obtain ⟨e, he0, he⟩ := net_run_bad s0 s1' f0 f1' w g
    refine Ev.congr (fun q' => by rw [coppicerkeep_NetMore.f]) ?_
    refine Ev.bind he ?_
    refine Ev.bind hb ?_
    refine Ev.neg (fun h => g (hbi.1 h)) (Ev.val ?_)
    simpa using he0
end Go.Proofs.Ytiiankjmeodjdaa.Pure
