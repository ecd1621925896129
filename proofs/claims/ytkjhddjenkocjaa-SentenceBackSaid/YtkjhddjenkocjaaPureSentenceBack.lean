/- The law SentenceBack, as plain Lean: a sentence turned round takes the words turned round. Conditions: none beyond the kinds of the arguments. -/
import Derived.Test.YtkjhddjenkocjaaPBSback
import Derived.Test.YtkjhddjenkocjaaGB10
namespace Go.Proofs.Ytkjhddjenkocjaa.Pure
set_option linter.unusedVariables false
set_option linter.unusedSimpArgs false
open Go.RowKit Go.Proofs.Ytkjhddjenkocjaa.GB Go.Proofs.Ytkjhddjenkocjaa.PBM Go.Proofs.YtkjhddjenkocjaaW.PrintWords Go.Proofs.YtkjhddjenkocjaaW.PrintLast Go.Proofs.YtkjhddjenkocjaaW.PrintMore

theorem sb_loop {k : Int} {l b : List S25} {w : List Int} (hw : w.length ≤ 12) {e f : Int} {is : Bool} {r : Bool} (h : Ev (fun q => (sentence_Takes.f q k b w.reverse).bind fun bt184 => (if e = 0 then (if f = 0 then (if bt184.2 = 0 then (if (is == bt184.1) = true then (coppicerkeep_SentenceBack.j1 q ((b.length : Int) == (l.length : Int))) else (coppicerkeep_SentenceBack.j1 q false)) else (coppicerkeep_SentenceBack.j1 q false)) else (coppicerkeep_SentenceBack.j1 q false)) else (coppicerkeep_SentenceBack.j1 q false))) r) :
    ∀ (i : Nat) (acc : List Int), i ≤ w.length → acc = (w.drop i).reverse → Ev (fun q => coppicerkeep_SentenceBack.l0 q k l w b e is f acc ((i : Int) - 1)) r := by
  intro i
  induction i with
  | zero =>
    intro acc _ ha
    refine Ev.step (fun q => by rw [coppicerkeep_SentenceBack.l0]) (Ev.neg (by omega) ?_)
    rw [ha, List.drop_zero]
    exact h
  | succ i ih =>
    intro acc hi ha
    have hal : acc.length = w.length - (i + 1) := by rw [ha, List.length_reverse, List.length_drop]
    rw [show ((i + 1 : Nat) : Int) - 1 = (i : Int) by omega]
    refine Ev.step (fun q => by rw [coppicerkeep_SentenceBack.l0]) (Ev.pos (by omega) (Ev.pos (by omega) (Ev.pos (by omega) (Ev.pos (by omega) ?_))))
    rw [w64 (n := (i : Int) - 1) (by omega) (by omega), rd_nat]
    refine ih _ (by omega) ?_
    rw [drop_cons (l := w) (i := i) (by omega) 0, List.reverse_cons, ha]
theorem SentenceBack : coppicerkeep_SentenceBack.Pure := by
  intro k l w _ _ _
  obtain ⟨b4, h4, h4i⟩ := said_spec k l w
  refine Ev.rounds ?_
  by_cases g : GoodS k l ∧ GoodW k w
  · obtain ⟨gl, gw⟩ := g
    have hw := gw.1
    obtain ⟨b1, h1, i1⟩ := takes_good gl gw
    have gw2 : GoodW k w.reverse := ⟨by rw [List.length_reverse]; exact gw.1, fun s hs => gw.2 s (List.mem_reverse.1 hs)⟩
    obtain ⟨b2, h2, i2⟩ := takes_good (good_swp gl) gw2
    rw [List.length_map, List.length_reverse] at i2
    have e12 : b1 = b2 := by
      rw [Bool.eq_iff_iff, i1, i2]
      exact (M_rev_iff l w _).symm
    refine Ev.congr (fun q => by rw [coppicerkeep_SentenceBack.f]) (Ev.bind (back_good gl) (Ev.bind h1 (Ev.bind h4 (Ev.pos (h4i.2 ⟨gl, gw⟩) ?_))))
    rw [w64 (n := (w.length : Int) - 1) (by omega) (by omega)]
    refine sb_loop hw ?_ w.length [] (Nat.le_refl _) (by rw [List.drop_length]; rfl)
    refine Ev.bind h2 (Ev.pos rfl (Ev.pos rfl (Ev.pos rfl (Ev.pos (by rw [e12]; exact beq_self_eq_true _) ?_))))
    refine Ev.step (fun q => by rw [coppicerkeep_SentenceBack.j1]) (Ev.val ?_)
    simp
  · obtain ⟨e, e0, h1⟩ := takes_bad g
    obtain ⟨r, hr⟩ := back_any k l
    refine Ev.congr (fun q => by rw [coppicerkeep_SentenceBack.f]) (Ev.bind hr (Ev.bind h1 (Ev.bind h4 (Ev.neg (fun h => g (h4i.1 h)) (Ev.val ?_)))))
    simpa using e0
end Go.Proofs.Ytkjhddjenkocjaa.Pure
