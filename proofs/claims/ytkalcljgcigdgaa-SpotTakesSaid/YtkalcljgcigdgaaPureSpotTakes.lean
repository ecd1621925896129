/- A sentence's net takes just the words that the sentence takes. Conditions: none. -/
import Derived.Test.YtkalcljgcigdgaaPSSpotnet
import Derived.Test.YtkalcljgcigdgaaGS17
namespace Go.Proofs.Ytkalcljgcigdgaa.Pure
set_option linter.unusedVariables false
set_option linter.unusedSimpArgs false
open Go.RowKit Go.Proofs.Ytkalcljgcigdgaa.GS Go.Proofs.Ytkalcljgcigdgaa.PSM Go.Proofs.YtkalcljgcigdgaaW.PrintWords Go.Proofs.YtkalcljgcigdgaaW.PrintLast Go.Proofs.YtkalcljgcigdgaaW.PrintMore

theorem spot_loop (w : List Int) (b : Bool) (n k : Int) (arcs : List S42) (st f : Int) (hl : arcs.length ≤ 60) (hs : ∀ a ∈ arcs, 0 ≤ a.f1) {x : Int} {b' : Bool} (hr : Ev (fun q => net_Run.f q n k arcs st f w) (x, b', 0)) :
    ∀ (d i : Nat), i + d = arcs.length → Ev (fun q => coppicerkeep_SpotTakes.l0 q w b arcs (arcs.length : Int) (i : Int) n k arcs st f) (b == b') := by
  intro d
  induction d with
  | zero =>
    intro i hi
    exact Ev.step (fun q => by rw [coppicerkeep_SpotTakes.l0]) (Ev.neg (by omega) (Ev.bind hr (Ev.pos rfl (Ev.now _))))
  | succ d ih =>
    intro i hi
    have ew : wrap64 ((i : Int) + 1) = ((i + 1 : Nat) : Int) := by rw [w64 (by omega) (by omega)]; rfl
    have hn : ¬ (arcs.getD i z42).f1 < 0 := by have := hs _ (getD_mem (d := z42) (show i < arcs.length by omega)); omega
    exact Ev.step (fun q => by rw [coppicerkeep_SpotTakes.l0, ew, rdT_nat]) (Ev.pos (by omega) (Ev.pos (by omega) (Ev.pos (by omega) (Ev.neg hn (ih (i + 1) (by omega))))))
theorem SpotTakes : coppicerkeep_SpotTakes.Pure := by
  intro k l w _ _ _
  refine Ev.rounds ?_
  obtain ⟨b, hb, hi⟩ := said_spec k l w
  by_cases c : b = true
  · obtain ⟨g, gw⟩ := hi.1 c
    obtain ⟨t, ht, ht2⟩ := takes_good g gw
    obtain ⟨r, hr, hr2⟩ := net_spec g
    refine Ev.congr (fun q => by rw [coppicerkeep_SpotTakes.f]) (Ev.bind hr (Ev.bind ht (Ev.bind hb (Ev.pos c (Ev.pos rfl ?_)))))
    rcases hr2 with ⟨x1, x2⟩ | ⟨x1, x2⟩
    · exact Ev.neg (by rw [x1]; decide) (Ev.pos x1 (Ev.eq (Ev.now _) (by rw [x2]; rfl)))
    · refine Ev.pos x1 ?_
      have hrun := net_run_good x2.good (by rw [x2.st]; decide) (by rw [x2.st]; decide) x2.fin (by
        have h1 := x2.good.fin
        have h2 : r.1.toNat ≤ 7 := by have := x2.good.n7; omega
        have h3 := pow_le7 h2
        rw [pow_cast] at h1
        omega) w gw
      have := spot_loop w t r.1 k r.2.2.1 r.2.2.2.1 r.2.2.2.2.1 x2.good.len x2.syms hrun r.2.2.1.length 0 (by omega)
      rw [x2.alpha]
      refine this.eq ?_
      rw [beq_iff_eq, Bool.eq_iff_iff, decide_eq_true_iff, ht2, x2.takes w gw]
  · obtain ⟨e, he, ht⟩ := takes_bad (fun h => c (hi.2 h))
    obtain ⟨r, hr⟩ : ∃ r, Ev (fun q => spot_Net.f q k l) r := by
      by_cases cg : GoodS k l
      · exact (net_spec cg).imp fun _ h => h.1
      · obtain ⟨e', he', hi'⟩ := scheck_spec k l
        have hne : e' ≠ 0 := fun h => cg (hi'.1 h)
        refine ⟨(0, 0, [], 0, 0, e'), ?_⟩
        refine Ev.congr (fun q => by rw [spot_Net.f]) ?_
        exact Ev.bind he' (Ev.pos hne (Ev.now _))
    refine Ev.congr (fun q => by rw [coppicerkeep_SpotTakes.f]) ?_
    refine Ev.bind hr (Ev.bind ht (Ev.bind hb (Ev.neg c (Ev.val ?_))))
    simpa using he
end Go.Proofs.Ytkalcljgcigdgaa.Pure
