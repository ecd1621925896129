/- The law TableTree, as plain Lean: a word has a tree in a proper grammar just where the grammar makes it. Conditions: none beyond the kinds of the arguments. -/
import Derived.Test.YthgiiikjcfhgjaaPTProper
import Derived.Test.YthgiiikjcfhgjaaGT12
namespace Go.Proofs.Ythgiiikjcfhgjaa.Pure
set_option linter.unusedVariables false
set_option linter.unusedSimpArgs false
open Go.RowKit Go.Proofs.Ythgiiikjcfhgjaa.GT Go.Proofs.Ythgiiikjcfhgjaa.PTM Go.Proofs.YthgiiikjcfhgjaaW.PrintWords Go.Proofs.YthgiiikjcfhgjaaW.PrintLast Go.Proofs.YthgiiikjcfhgjaaW.PrintMore

theorem TableTree : coppicerkeep_TableTree.Pure := by
  intro k n s rs w _ _ _ _ _
  obtain ⟨t, htb, hti⟩ := grown_spec (k := k) (n := n) (s := s) (rs := rs) w
  obtain ⟨e, he, hei⟩ := wrong_spec (k := k) (n := n) (s := s) (rs := rs) w
  refine Ev.rounds ?_
  refine Ev.congr (fun q => by rw [coppicerkeep_TableTree.f]) ?_
  by_cases g : GoodG k n s rs ∧ GoodW k w
  · obtain ⟨gg, gw⟩ := g
    obtain ⟨T, is, F, his, htk⟩ := takes_good gg gw
    have hrl := gg.len
    obtain ⟨p, hp, hpi⟩ := proper_spec (k := k) (n := n) (s := s) (rs := rs) (by omega)
    obtain ⟨p2, hp2, hpi2⟩ := rproper_spec (k := k) (n := n) (s := s) (rs := rs) (by omega)
    have k1 := gg.k1
    have k3 := gg.k3
    have s0 := gg.s0
    have s1 := gg.s1
    have n5 := gg.n5
    have hj : ∀ (x : Bool), x = true → Ev (fun q => coppicerkeep_TableTree.j0 q x) true := by
      intro x hx
      exact Ev.step (fun q => by rw [coppicerkeep_TableTree.j0]) (Ev.val (congrArg some hx))
    by_cases P : ProperG k rs
    · obtain ⟨v, hv, v0, v1, hvi⟩ := (count_all gg gw.1 F P w.length 0 w.length (by omega) (Nat.le_refl _)).2 (k + s) (by omega) (by omega)
      have hv' : Ev (fun q => table_Count.sign q k rs w (wrap64 (k + s)) 0 (w.length : Int)) v := by
        rw [w64 (n := k + s) (by omega) (by omega)]
        exact hv
      have hvt : 0 < v ↔ is = true := by
        rw [hvi, his]
        constructor
        · intro h
          rcases h.2 with ⟨_, h1⟩ | ⟨h1, _⟩
          · rw [show k + s - k = s by omega] at h1
            exact h1
          · omega
        · intro h
          exact ⟨by omega, Or.inl ⟨by omega, by rw [show k + s - k = s by omega]; exact h⟩⟩
      by_cases big : 1099511627776 < v
      · have tr : Ev (fun q => table_Trees.f q k n s rs w) (0, 1) := Ev.congr (fun q => by rw [table_Trees.f]) (Ev.bind he (Ev.pos (hei.2 ⟨gg, gw⟩) (Ev.bind hp (Ev.pos (hpi.2 P) (Ev.bind hv' (Ev.pos big (Ev.now _)))))))
        refine Ev.bind tr (Ev.bind htk (Ev.bind htb (Ev.pos (hti.2 ⟨gg, gw⟩) (Ev.pos rfl (Ev.neg (show ¬ (1 : Int) = 0 by decide) (Ev.pos rfl (Ev.bind hp2 ?_)))))))
        refine Ev.pos (by rw [hpi2.2 P]; rfl) (Ev.pos rfl (hj _ (hvt.1 (by omega))))
      · have tr : Ev (fun q => table_Trees.f q k n s rs w) (v, 0) := Ev.congr (fun q => by rw [table_Trees.f]) (Ev.bind he (Ev.pos (hei.2 ⟨gg, gw⟩) (Ev.bind hp (Ev.pos (hpi.2 P) (Ev.bind hv' (Ev.neg big (Ev.now _)))))))
        refine Ev.bind tr (Ev.bind htk (Ev.bind htb (Ev.pos (hti.2 ⟨gg, gw⟩) (Ev.pos rfl (Ev.pos rfl (Ev.bind hp2 (Ev.pos (hpi2.2 P) (Ev.val ?_))))))))
        refine congrArg some ?_
        rw [beq_iff_eq, Bool.eq_iff_iff, decide_eq_true_iff]
        exact hvt
    · have hpf : p = false := by
        cases p
        · rfl
        · exact absurd (hpi.1 rfl) P
      have hpf2 : p2 = false := by
        cases p2
        · rfl
        · exact absurd (hpi2.1 rfl) P
      subst hpf hpf2
      have tr : Ev (fun q => table_Trees.f q k n s rs w) (0, 3) := by
        refine Ev.congr (fun q => by rw [table_Trees.f]) ?_
        refine Ev.bind he ?_
        refine Ev.pos (hei.2 ⟨gg, gw⟩) ?_
        refine Ev.bind hp ?_
        refine Ev.neg (show ¬ false = true by decide) ?_
        exact Ev.now _
      refine Ev.bind tr (Ev.bind htk (Ev.bind htb (Ev.pos (hti.2 ⟨gg, gw⟩) (Ev.pos rfl (Ev.neg (show ¬ (3 : Int) = 0 by decide) (Ev.pos rfl (Ev.bind hp2 ?_)))))))
      refine Ev.pos (by rfl) (Ev.neg (show ¬ (3 : Int) = 1 by decide) (hj _ rfl))
  · obtain ⟨is, e2, hne, htk⟩ := takes_bad g
    have he0 : ¬ e = 0 := fun h => g (hei.1 h)
    have tr : Ev (fun q => table_Trees.f q k n s rs w) (0, e) := Ev.congr (fun q => by rw [table_Trees.f]) (Ev.bind he (Ev.neg he0 (Ev.now _)))
    refine Ev.bind tr (Ev.bind htk (Ev.bind htb (Ev.neg (fun h => g (hti.1 h)) (Ev.neg he0 (Ev.val ?_)))))
    simpa using hne
end Go.Proofs.Ythgiiikjcfhgjaa.Pure
