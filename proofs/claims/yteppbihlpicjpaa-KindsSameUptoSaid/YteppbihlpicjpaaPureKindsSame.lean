/- The law KindsSame, as plain Lean: two words that do the same in the least machine may stand for one another between any two words, and the longer words do the same again. Conditions: none beyond the kinds of the arguments. -/
import Derived.Test.YteppbihlpicjpaaPKKinds
import Derived.Test.YteppbihlpicjpaaGK16
namespace Go.Proofs.Yteppbihlpicjpaa.Pure
set_option linter.unusedVariables false
set_option linter.unusedSimpArgs false
open Go.RowKit Go.Proofs.Yteppbihlpicjpaa.GK Go.Proofs.Yteppbihlpicjpaa.PKM Go.Proofs.YteppbihlpicjpaaW.PrintWords Go.Proofs.YteppbihlpicjpaaW.PrintLast Go.Proofs.YteppbihlpicjpaaW.PrintMore

theorem sameB_refl (n : Int) (nx : List (List Int)) (u : List Int) : sameB n nx u u = true := sameB_iff.2 (fun _ _ _ => rfl)
theorem sameB_comm (n : Int) (nx : List (List Int)) (u v : List Int) : sameB n nx u v = sameB n nx v u := by
  rw [Bool.eq_iff_iff, sameB_iff, sameB_iff]
  exact ⟨fun h i i0 i7 => (h i i0 i7).symm, fun h i i0 i7 => (h i i0 i7).symm⟩
theorem KindsSame : coppicerkeep_KindsSame.Pure := by
  intro n k nx st f u v x y _ _ _ _ wf wu _ wv _ wx lx wy ly
  obtain ⟨f0, f1⟩ := wf_u32 wf
  have f1' : f < 4294967296 := by omega
  obtain ⟨b, hb, hbi⟩ := good_spec (n := n) (k := k) (nx := nx) (s := st) f0 f1' u
  obtain ⟨b2, hb2, hbi2⟩ := good_spec (n := n) (k := k) (nx := nx) (s := st) f0 f1' v
  refine Ev.rounds ?_
  by_cases g : GoodM n k nx st f ∧ GoodW k u ∧ GoodW k v
  · obtain ⟨gm, gu, gv⟩ := g
    obtain ⟨N, next, T, T0, T1, gN, hN, hw, hs⟩ := Small_good gm f0 f1'
    have sp := fun {a b : List Int} (ha : GoodW k a) (hb : GoodW k b) => same_spec gm f0 f1' gN hs ha hb
    refine Ev.congr (fun q => by rw [coppicerkeep_KindsSame.f]) ?_
    refine Ev.bind (sp gu gv) (Ev.bind hb (Ev.pos (hbi.2 ⟨gm, gu⟩) (Ev.bind hb2 ?_)))
    rw [hbi2.2 ⟨gm, gv⟩]
    refine Ev.step (fun q => by rw [coppicerkeep_KindsSame.j0]) ?_
    refine Ev.neg (by simp) ?_
    refine Ev.bind (sp gu gu) (Ev.bind (sp gv gu) ?_)
    refine Ev.pos rfl (Ev.pos rfl (Ev.pos rfl (Ev.pos (sameB_refl _ _ _) ?_)))
    refine Ev.step (fun q => by rw [coppicerkeep_KindsSame.j1]) ?_
    refine Ev.neg (by simp [sameB_comm N next v u]) ?_
    have lu := gu.1
    have lv := gv.1
    refine Ev.let_ ?_
    refine Ev.pos (by simp; omega) ?_
    refine Ev.let_ ?_
    refine Ev.pos (by simp; omega) ?_
    refine Ev.let_ ?_
    refine Ev.pos (by simp; omega) ?_
    refine Ev.let_ ?_
    refine Ev.let_ ?_
    refine Ev.pos (by simp; omega) ?_
    refine Ev.let_ ?_
    refine Ev.pos (by simp; omega) ?_
    refine Ev.let_ ?_
    refine Ev.pos (by simp; omega) ?_
    refine Ev.let_ ?_
    rw [List.nil_append]
    generalize ha : x ++ u ++ y = a
    generalize hb : x ++ v ++ y = b
    have dead : ∀ (c : Bool), c = true → Ev (fun q => coppicerkeep_KindsSame.j2 q a b c n k nx st f) true := by
      intro c hc
      refine Ev.step (fun q => by rw [coppicerkeep_KindsSame.j2]) ?_
      exact Ev.pos hc (Ev.now _)
    by_cases same : sameB N next u v = true
    · refine Ev.pos same ?_
      obtain ⟨c, hc, hci⟩ := good_spec (n := n) (k := k) (nx := nx) (s := st) f0 f1' a
      refine Ev.bind hc ?_
      by_cases ga : c = true
      · refine Ev.pos ga ?_
        obtain ⟨c2, hc2, hci2⟩ := good_spec (n := n) (k := k) (nx := nx) (s := st) f0 f1' b
        refine Ev.bind hc2 ?_
        by_cases gb : c2 = true
        · rw [gb]
          have ga' := (hci.1 ga).2
          have gb' := (hci2.1 gb).2
          refine Ev.step (fun q => by rw [coppicerkeep_KindsSame.j2]) ?_
          refine Ev.neg (by simp) ?_
          refine Ev.bind (run_good gm f0 f1' a ga') (Ev.bind (run_good gm f0 f1' b gb') (Ev.bind (sp ga' gb') ?_))
          have all := sameB_iff.1 same
          have gx : ∀ s ∈ x, 0 ≤ s ∧ s < k := fun s hs => ga'.2 s (by rw [← ha]; simp [hs])
          have eq : ∀ i, 0 ≤ i → i < 7 → mv N next a i = mv N next b i := by
            intro i i0 i7
            rw [← ha, ← hb, List.append_assoc, List.append_assoc, mv_app gN gx i0, mv_app gN gx i0]
            have := mv_in gN gx i0 i7
            rw [mv_app gN gu.2 this.1, mv_app gN gv.2 this.1, all _ this.1 this.2]
          have e0 := eq 0 (by decide) (by decide)
          have hN1 := gN.n1
          unfold mv at e0
          rw [if_pos (by omega), if_pos (by omega)] at e0
          refine Ev.pos rfl (Ev.pos rfl (Ev.pos rfl (Ev.pos ?_ (Ev.val ?_))))
          · rw [beq_iff_eq]
            show bit f (leads nx st a) = bit f (leads nx st b)
            rw [← hw a ga'.2, ← hw b gb'.2, e0]
          · exact congrArg some (sameB_iff.2 eq)
        · exact dead _ (by simpa using gb)
      · exact Ev.neg ga (dead _ rfl)
    · exact Ev.neg same (dead _ rfl)
  · obtain ⟨e, he0, he⟩ := same_bad f0 f1' g
    refine Ev.congr (fun q => by rw [coppicerkeep_KindsSame.f]) (Ev.bind he (Ev.bind hb ?_))
    have out : ∀ (c : Bool), c = true → Ev (fun q => coppicerkeep_KindsSame.j0 q u v x y false e c n k nx st f) true := by
      intro c hc
      refine Ev.step (fun q => by rw [coppicerkeep_KindsSame.j0]) ?_
      refine Ev.pos hc (Ev.val ?_)
      simpa using he0
    by_cases c : b = true
    · refine Ev.pos c (Ev.bind hb2 (out _ ?_))
      have : b2 ≠ true := fun h => g ⟨(hbi.1 c).1, (hbi.1 c).2, (hbi2.1 h).2⟩
      simpa using this
    · exact Ev.neg c (out _ rfl)
end Go.Proofs.Yteppbihlpicjpaa.Pure
