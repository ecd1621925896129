/- The law NetSure, as plain Lean: the machine of a net takes a word just if the net does. Conditions: none beyond the kinds of the arguments. -/
import Derived.Test.YtiiankjmeodjdaaPDSure
import Derived.Test.YtiiankjmeodjdaaPDNetted
import Derived.Test.YtiiankjmeodjdaaGD11
namespace Go.Proofs.Ytiiankjmeodjdaa.Pure
set_option linter.unusedVariables false
set_option linter.unusedSimpArgs false
open Go.RowKit Go.Proofs.Ytiiankjmeodjdaa.GD Go.Proofs.Ytiiankjmeodjdaa.PDM Go.Proofs.YtiiankjmeodjdaaW.PrintWords Go.Proofs.YtiiankjmeodjdaaW.PrintLast Go.Proofs.YtiiankjmeodjdaaW.PrintMore

theorem NetSure : coppicerkeep_NetSure.Pure := by
  intro n k arcs st f w _ _ _ wst wf _
  obtain ⟨s0, s1⟩ := wf_u32 wst
  obtain ⟨f0, f1⟩ := wf_u32 wf
  have s1' : st < 4294967296 := by omega
  have f1' : f < 4294967296 := by omega
  obtain ⟨b, hb, hbi⟩ := netted_spec (n := n) (k := k) (arcs := arcs) (st := st) (f := f) w
  refine Ev.rounds ?_
  have start : ∀ {ra : Int × Bool × Int} {rb : Int × Int × List (List Int) × Int × Int × Int} {r : Bool}, Ev (fun q => net_Run.f q n k arcs st f w) ra → Ev (fun q => net_Sure.f q n k arcs st f) rb →
      Ev (fun q => if b = true then (if ra.2.2 = 0 then (if rb.2.2.2.2.2 = 0 then ((machine_Run.f q rb.1 rb.2.1 rb.2.2.1 rb.2.2.2.1 rb.2.2.2.2.1 w).bind fun bt188 => (if bt188.2.2 = 0 then (some (ra.2.1 == bt188.2.1)) else (some false))) else (if rb.2.2.2.2.2 = 1 then (some (rb.1 == 0)) else (some false))) else (some false)) else (some (ra.2.2 != 0))) r → Ev (fun q => coppicerkeep_NetSure.f q n k arcs st f w) r := by
    intro ra rb r h1 h2 h3
    refine Ev.congr (fun q => by rw [coppicerkeep_NetSure.f]) ?_
    refine Ev.bind h1 ?_
    refine Ev.bind h2 ?_
    refine Ev.bind hb ?_
    exact h3
  by_cases g : GoodN n k arcs st f ∧ GoodW k w
  · obtain ⟨gn, gw⟩ := g
    have hr := net_run_good gn s0 s1' f0 f1' w gw
    rcases sure_good gn s0 s1' f0 f1' with hs | ⟨sets, next, F, F0, F1, gm, h0, inv, hl, hbit, hs⟩
    · refine start hr hs ?_
      refine Ev.pos (hbi.2 ⟨gn, gw⟩) ?_
      refine Ev.pos rfl ?_
      refine Ev.neg (show ¬ ((1 : Int) = 0) by decide) ?_
      exact Ev.pos rfl (Ev.now _)
    · have hm := run_good gm F0 F1 w gw
      refine start hr hs ?_
      refine Ev.pos (hbi.2 ⟨gn, gw⟩) ?_
      refine Ev.pos rfl ?_
      refine Ev.pos rfl ?_
      refine Ev.bind hm ?_
      refine Ev.pos rfl (Ev.val ?_)
      have hin := leads_in gm gw.2 ⟨gm.s0, gm.s1⟩
      have e : (sets.getD (leads next 0 w).toNat 0).toNat = setN arcs st w := by
        rcases sure_leads (st := st) (f := f) gm inv hl w 0 gw.2 ⟨by omega, gm.s1⟩ with h1 | h1
        · rw [h1, show (0 : Int).toNat = 0 from rfl, h0, Int.toNat_natCast, Int.toNat_natCast]
          rfl
        · subst h1
          show (sets.getD (0 : Int).toNat 0).toNat = freeS arcs st.toNat
          rw [show (0 : Int).toNat = 0 from rfl, h0, Int.toNat_natCast]
      show some (_ == bit F (leads next 0 w)) = some true
      rw [hbit _ hin.1 hin.2, e]
      simp
  · obtain ⟨e, he0, he⟩ := net_run_bad s0 s1' f0 f1' w g
    have hsure : ∃ r, Ev (fun q => net_Sure.f q n k arcs st f) r := by
      by_cases gn : GoodN n k arcs st f
      · rcases sure_good gn s0 s1' f0 f1' with hs | ⟨_, _, _, _, _, _, _, _, _, _, hs⟩
        · exact ⟨_, hs⟩
        · exact ⟨_, hs⟩
      · obtain ⟨e2, he2, hi2⟩ := netcheck_spec (n := n) (k := k) (arcs := arcs) s0 s1' f0 f1'
        exact ⟨_, Ev.congr (fun q => by rw [net_Sure.f]) (Ev.bind he2 (Ev.neg (fun h => gn (hi2.1 h)) (Ev.now _)))⟩
    obtain ⟨r, hs⟩ := hsure
    refine start he hs ?_
    refine Ev.neg (fun h => g (hbi.1 h)) (Ev.val ?_)
    simpa using he0
end Go.Proofs.Ytiiankjmeodjdaa.Pure
