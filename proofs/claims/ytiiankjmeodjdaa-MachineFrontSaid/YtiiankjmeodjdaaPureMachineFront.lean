/- The law MachineFront, as plain Lean: a machine reads two words, one behind the other, as it reads the second one from where the first one leads. Conditions: none beyond the kinds of the arguments. -/
import Derived.Test.YtiiankjmeodjdaaPureMachine
import Derived.Test.YtiiankjmeodjdaaGA7
namespace Go.Proofs.Ytiiankjmeodjdaa.Pure
set_option linter.unusedVariables false
set_option linter.unusedSimpArgs false
open Go.RowKit Go.Proofs.Ytiiankjmeodjdaa.GA Go.Proofs.Ytiiankjmeodjdaa.PureM Go.Proofs.YtiiankjmeodjdaaW.PrintWords Go.Proofs.YtiiankjmeodjdaaW.PrintLast Go.Proofs.YtiiankjmeodjdaaW.PrintMore

theorem MachineFront : coppicerkeep_MachineFront.Pure := by
  intro n k nx st f u v _ _ _ _ wf wu wv
  obtain ⟨f0, f1⟩ := wf_u32 wf
  have f1' : f < 4294967296 := by omega
  obtain ⟨b, hb, hbi⟩ := good_spec (n := n) (k := k) (nx := nx) (s := st) f0 f1' u
  refine Ev.rounds ?_
  by_cases g : GoodM n k nx st f ∧ GoodW k u
  · obtain ⟨gm, gw⟩ := g
    have hr := run_good gm f0 f1' u gw
    have hin := leads_in gm gw.2 ⟨gm.s0, gm.s1⟩
    have tail : ∀ (r : Bool), Ev (fun q => (machine_Run.f q n k nx st f (u ++ v)).bind fun bt141 => (if (0 : Int) = 0 then (if leads nx st u < 0 then (coppicerkeep_MachineFront.j0 q u v (leads nx st u) bt141.1 bt141.2.1 bt141.2.2 true n k nx st f) else (coppicerkeep_MachineFront.j0 q u v (leads nx st u) bt141.1 bt141.2.1 bt141.2.2 (decide (leads nx st u ≥ n)) n k nx st f)) else (coppicerkeep_MachineFront.j0 q u v (leads nx st u) bt141.1 bt141.2.1 bt141.2.2 true n k nx st f))) r →
        Ev (fun q => coppicerkeep_MachineFront.f q n k nx st f u v) r := by
      intro r h
      refine Ev.congr (fun q => by rw [coppicerkeep_MachineFront.f]) (Ev.bind hr (Ev.bind hb ?_))
      have hbt : b = true := hbi.2 ⟨gm, gw⟩
      refine Ev.pos hbt (Ev.let_ (Ev.pos (by simp; omega) (Ev.let_ (Ev.pos ?_ ?_))))
      · have := wv.2.1; have := gw.1; simp; omega
      · exact h
    refine tail _ ?_
    by_cases g2 : GoodW k (u ++ v)
    · have hr2 := run_good gm f0 f1' (u ++ v) g2
      have gv : GoodW k v := ⟨by have := g2.1; rw [List.length_append] at this; omega, fun s hs => g2.2 s (List.mem_append_right _ hs)⟩
      have gm2 : GoodM n k nx (leads nx st u) f := { gm with s0 := hin.1, s1 := hin.2 }
      have hr3 := run_good gm2 f0 f1' v gv
      have e : leads nx (leads nx st u) v = leads nx st (u ++ v) := by unfold leads; rw [List.foldl_append]
      rw [e] at hr3
      refine Ev.bind hr2 (Ev.pos rfl (Ev.neg (by omega) (Ev.step (fun q => by rw [coppicerkeep_MachineFront.j0]) (Ev.neg (by simp; omega) (Ev.pos rfl (Ev.bind hr3 (Ev.pos rfl (Ev.pos rfl (Ev.val ?_)))))))))
      simp
    · obtain ⟨e, he0, he⟩ := run_bad (n := n) (k := k) (nx := nx) (st := st) f0 f1' (u ++ v) (fun h => g2 h.2)
      refine Ev.bind he (Ev.pos rfl (Ev.neg (by omega) (Ev.step (fun q => by rw [coppicerkeep_MachineFront.j0]) (Ev.neg (by simp; omega) (Ev.neg he0 ?_)))))
      rw [w64 (by omega) (by have := wv.1; have := wu.1; have := wv.2.1; have := gw.1; omega)]
      by_cases hl : (u.length : Int) + (v.length : Int) > 12
      · exact Ev.pos hl (Ev.now _)
      · refine Ev.neg hl ?_
        obtain ⟨e2, he2, hi2⟩ := wordcheck_spec k v
        refine Ev.bind he2 (Ev.val ?_)
        have : e2 ≠ 0 := fun h => g2 ⟨by rw [List.length_append]; omega, fun s hs => (List.mem_append.1 hs).elim (gw.2 s) ((hi2.1 h).2 s)⟩
        simpa using this
  · obtain ⟨e, he0, he⟩ := run_bad f0 f1' u g
    refine Ev.congr (fun q => by rw [coppicerkeep_MachineFront.f]) (Ev.bind he (Ev.bind hb (Ev.neg (fun h => g (hbi.1 h)) (Ev.val ?_))))
    simpa using he0
end Go.Proofs.Ytiiankjmeodjdaa.Pure
