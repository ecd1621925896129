/- The law LeastApart, as plain Lean: shorter words do not tell the machines apart, and the word that is told does. Conditions: none beyond the kinds of the arguments. -/
import Derived.Test.YthgiiikjcfhgjaaPVApart
import Derived.Test.YthgiiikjcfhgjaaGV16
namespace Go.Proofs.Ythgiiikjcfhgjaa.Pure
set_option linter.unusedVariables false
set_option linter.unusedSimpArgs false
open Go.RowKit Go.Proofs.Ythgiiikjcfhgjaa.GV Go.Proofs.Ythgiiikjcfhgjaa.PVM Go.Proofs.YthgiiikjcfhgjaaW.PrintWords Go.Proofs.YthgiiikjcfhgjaaW.PrintLast Go.Proofs.YthgiiikjcfhgjaaW.PrintMore

theorem LeastApart : coppicerkeep_LeastApart.Pure := by
  intro n k nx st f n2 k2 nx2 st2 g v _ _ _ _ wf _ _ _ _ wg _
  obtain ⟨f0, f1⟩ := wf_u32 wf
  obtain ⟨g0, g1⟩ := wf_u32 wg
  have f1' : f < 4294967296 := by omega
  have g1' : g < 4294967296 := by omega
  obtain ⟨e, he, hi⟩ := wrong_spec (n := n) (k := k) (nx := nx) (st := st) (n2 := n2) (k2 := k2) (nx2 := nx2) (st2 := st2) f0 f1' g0 g1'
  obtain ⟨r1, hr1, hj1⟩ := refcheck_spec (n := n) (k := k) (nx := nx) (s := st) f0 f1'
  obtain ⟨r2, hr2, hj2⟩ := refcheck_spec (n := n2) (k := k2) (nx := nx2) (s := st2) g0 g1'
  refine Ev.rounds ?_
  by_cases c : GoodM n k nx st f ∧ GoodM n2 k2 nx2 st2 g ∧ k = k2
  · obtain ⟨ga, gb, rfl⟩ := c
    obtain ⟨⟨w, x8⟩, hr, ht⟩ := apart_spec ga gb f0 f1' g0 g1'
    obtain ⟨b, hb, hbi⟩ := same_spec ga gb f0 f1' g0 g1'
    have hna := ga.n7
    have hnb := gb.n7
    have hn1 := ga.n1
    have hm1 := gb.n1
    refine Ev.congr (fun q => by rw [coppicerkeep_LeastApart.f]) ?_
    refine Ev.bind hr ?_
    refine Ev.bind hb ?_
    refine Ev.bind hr1 ?_
    refine Ev.pos (hj1.2 ga) ?_
    refine Ev.bind hr2 ?_
    refine Ev.pos (hj2.2 gb) ?_
    refine Ev.step (fun q => by rw [coppicerkeep_LeastApart.j0]) ?_
    refine Ev.neg (by simp) ?_
    refine Ev.pos rfl ?_
    refine Ev.step (fun q => by rw [coppicerkeep_LeastApart.j1]) ?_
    refine Ev.neg ?_ ?_
    · rcases ht with ⟨h5, _, hL⟩ | ⟨h0, hw, hd, _⟩
      · have h5 : x8 = 5 := h5
        subst h5
        have : b = true := hbi.2 hL
        subst this
        simp
      · have h0 : x8 = 0 := h0
        subst h0
        have : b = false := by
          cases b
          · rfl
          · exact absurd (hbi.1 rfl w hw) hd
        subst this
        simp
    · have j2 : ∀ x : Bool, x = false → Ev (fun q => coppicerkeep_LeastApart.j2 q v w x8 x n k nx st f n2 k nx2 st2 g) true := by
        rintro x rfl
        refine Ev.step (fun q => by rw [coppicerkeep_LeastApart.j2]) ?_
        refine Ev.neg (by decide) ?_
        obtain ⟨bg, hbg, hbgi⟩ := good_spec (n := n) (k := k) (nx := nx) (s := st) f0 f1' v
        refine Ev.bind hbg ?_
        have yes : Ev (fun q => coppicerkeep_LeastApart.j3 q v true n k nx st f n2 k nx2 st2 g) true := by
          refine Ev.step (fun q => by rw [coppicerkeep_LeastApart.j3]) ?_
          exact Ev.pos rfl (Ev.now _)
        by_cases cg : bg = true
        · refine Ev.pos cg ?_
          have gv := (hbgi.1 cg).2
          have no : bit f (leads nx st v) = bit g (leads nx2 st2 v) → Ev (fun q => coppicerkeep_LeastApart.j3 q v false n k nx st f n2 k nx2 st2 g) true := by
            intro hE
            refine Ev.step (fun q => by rw [coppicerkeep_LeastApart.j3]) ?_
            refine Ev.neg (by decide) ?_
            refine Ev.bind (run_good ga f0 f1' v gv) ?_
            refine Ev.bind (run_good gb g0 g1' v gv) ?_
            refine Ev.pos rfl ?_
            refine Ev.pos rfl ?_
            refine Ev.step (fun q => by rw [coppicerkeep_LeastApart.j4]) (Ev.val ?_)
            simp [hE]
          rcases ht with ⟨h5, _, hL⟩ | ⟨h0, hw, hd, hs⟩
          · have h5 : x8 = 5 := h5
            refine Ev.neg (by show ¬ x8 = 0; rw [h5]; decide) ?_
            exact no (hL v gv.2)
          · have h0 : x8 = 0 := h0
            refine Ev.pos h0 ?_
            by_cases cl : v.length < w.length
            · rw [show decide ((v.length : Int) ≥ (w.length : Int)) = false by rw [decide_eq_false_iff_not]; omega]
              exact no (hs v gv.2 cl)
            · rw [show decide ((v.length : Int) ≥ (w.length : Int)) = true by rw [decide_eq_true_iff]; omega]
              exact yes
        · exact Ev.neg cg yes
      rcases ht with ⟨h5, _, hL⟩ | ⟨h0, hw, hd, hs⟩
      · have h5 : x8 = 5 := h5
        refine Ev.neg (by show ¬ x8 = 0; rw [h5]; decide) ?_
        exact j2 false rfl
      · have h0 : x8 = 0 := h0
        refine Ev.pos h0 ?_
        have hl := apart_len ga gb hw hd hs
        have hl : (w.length : Int) ≤ n + n2 := hl
        refine Ev.neg (by rw [w64 (n := n + n2) (by omega) (by omega)]; show ¬ (w.length : Int) > n + n2; omega) ?_
        obtain ⟨ew, hew, hewi⟩ := wordcheck_spec k w
        refine Ev.bind hew ?_
        by_cases cw : ew = 0
        · refine Ev.pos cw ?_
          refine Ev.bind (takes_spec ga f0 f1' w (hewi.1 cw)) ?_
          refine Ev.bind (takes_spec gb g0 g1' w (hewi.1 cw)) ?_
          exact j2 _ (by rw [beq_eq_false_iff_ne]; exact hd)
        · exact Ev.neg cw (j2 false rfl)
  · have hne : ¬ e = 0 := fun h => c (hi.1 h)
    have la : Ev (fun q => least_Apart.f q n k nx st f n2 k2 nx2 st2 g) ([], e) := Ev.congr (fun q => by rw [least_Apart.f]) (Ev.bind he (Ev.neg hne (Ev.now _)))
    have lb : Ev (fun q => least_Same.f q n k nx st f n2 k2 nx2 st2 g) (false, e) := Ev.congr (fun q => by rw [least_Same.f]) (Ev.bind he (Ev.neg hne (Ev.now _)))
    have fin : ∀ x : Bool, x = true → Ev (fun q => coppicerkeep_LeastApart.j0 q v [] e false e x n k nx st f n2 k2 nx2 st2 g) true := by
      rintro x rfl
      refine Ev.step (fun q => by rw [coppicerkeep_LeastApart.j0]) ?_
      refine Ev.pos rfl ?_
      refine Ev.neg hne (Ev.val ?_)
      simpa using hne
    refine Ev.congr (fun q => by rw [coppicerkeep_LeastApart.f]) ?_
    refine Ev.bind la ?_
    refine Ev.bind lb ?_
    refine Ev.bind hr1 ?_
    by_cases z : r1 = 0
    · refine Ev.pos z ?_
      refine Ev.bind hr2 ?_
      by_cases z2 : r2 = 0
      · refine Ev.pos z2 (fin _ ?_)
        rw [bne_iff_ne]
        exact fun h => c ⟨hj1.1 z, hj2.1 z2, h⟩
      · exact Ev.neg z2 (fin true rfl)
    · exact Ev.neg z (fin true rfl)
end Go.Proofs.Ythgiiikjcfhgjaa.Pure
