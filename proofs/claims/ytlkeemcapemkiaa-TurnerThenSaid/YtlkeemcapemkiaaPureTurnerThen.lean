/- The law TurnerThen, as plain Lean: the turner of two turners writes what the second one writes for what the first one writes. Conditions: none beyond the kinds of the arguments. -/
import Derived.Test.YtlkeemcapemkiaaPAEq
import Derived.Test.YtlkeemcapemkiaaGA8
namespace Go.Proofs.Ytlkeemcapemkiaa.Pure
set_option linter.unusedVariables false
set_option linter.unusedSimpArgs false
open Go.RowKit Go.Proofs.Ytlkeemcapemkiaa.GA Go.Proofs.Ytlkeemcapemkiaa.PAM Go.Proofs.YtlkeemcapemkiaaW.PrintWords Go.Proofs.YtlkeemcapemkiaaW.PrintLast Go.Proofs.YtlkeemcapemkiaaW.PrintMore

theorem TurnerThen : coppicerkeep_TurnerThen.Pure := by
  intro an ak al ax ao as_ bn bk bl bx bo bs w _ _ _ _ _ _ _ _ _ _ _ _ ww
  obtain ⟨e, he, hi⟩ := rturner_spec (n := an) (k := ak) (l := al) (nx := ax) (ou := ao) (s := as_)
  obtain ⟨e3, he3, hi3⟩ := rturner_spec (n := bn) (k := bk) (l := bl) (nx := bx) (ou := bo) (s := bs)
  obtain ⟨e2, he2, hi2⟩ := wordcheck_spec ak w
  obtain ⟨e4, he4, hi4⟩ := tcheck_spec (n := an) (k := ak) (l := al) (nx := ax) (ou := ao) (s := as_)
  obtain ⟨e5, he5, hi5⟩ := tcheck_spec (n := bn) (k := bk) (l := bl) (nx := bx) (ou := bo) (s := bs)
  have ht : Ev (fun q => coppicerkeep_turning.f q an ak al ax ao as_) (e == 0) := Ev.congr (fun q => by rw [coppicerkeep_turning.f]) (Ev.bind he (Ev.now _))
  have ht3 : Ev (fun q => coppicerkeep_turning.f q bn bk bl bx bo bs) (e3 == 0) := Ev.congr (fun q => by rw [coppicerkeep_turning.f]) (Ev.bind he3 (Ev.now _))
  refine Ev.rounds ?_
  by_cases g : (GoodT an ak al ax ao as_ ∧ GoodT bn bk bl bx bo bs) ∧ GoodW ak w
  · obtain ⟨⟨ga, gb⟩, gw⟩ := g
    have q1 := ga.n1; have q2 := ga.n7; have q5 := gb.n1; have q6 := gb.n7
    have hmul : 0 ≤ an * bn ∧ an * bn ≤ 49 := ⟨Int.mul_nonneg (by omega) (by omega), by have : an * bn ≤ 7 * 7 := Int.mul_le_mul (by omega) (by omega) (by omega) (by omega); omega⟩
    have hrun := trun_good ga w gw
    have pre : ∀ {T : R7} {r : Bool}, Ev (fun q => turner_Then.f q an ak al ax ao as_ bn bk bl bx bo bs) T → Ev (fun q => coppicerkeep_TurnerThen.j0 q w T.2.2.2.2.2.2 (outT ax ao as_ w) 0 false bn bk bl bx bo bs T.1 T.2.1 T.2.2.1 T.2.2.2.1 T.2.2.2.2.1 T.2.2.2.2.2.1) r → Ev (fun q => coppicerkeep_TurnerThen.f q an ak al ax ao as_ bn bk bl bx bo bs w) r := by
      intro T r h1 h2
      refine Ev.congr (fun q => by rw [coppicerkeep_TurnerThen.f]) ?_
      refine Ev.bind h1 ?_
      refine Ev.bind hrun ?_
      refine Ev.bind ht ?_
      refine Ev.pos (by rw [hi.2 ga]; rfl) ?_
      refine Ev.bind ht3 ?_
      refine Ev.pos (by rw [hi3.2 gb]; rfl) ?_
      refine Ev.bind he2 ?_
      rw [hi2.2 gw]
      exact h2
    have bad : ∀ {c : Int}, c ≠ 0 → Ev (fun q => turner_Then.f q an ak al ax ao as_ bn bk bl bx bo bs) (0, 0, 0, [], [], 0, c) → Ev (fun q => coppicerkeep_TurnerThen.f q an ak al ax ao as_ bn bk bl bx bo bs w) true := by
      intro c hc h
      refine pre h ?_
      refine Ev.step (fun q => by rw [coppicerkeep_TurnerThen.j0]) ?_
      refine Ev.neg (by decide) ?_
      refine Ev.pos rfl ?_
      exact Ev.neg hc (Ev.now _)
    by_cases c1 : al = bk
    · by_cases c2 : an * bn > 7
      · refine bad (c := 1) (by decide) ?_
        refine Ev.congr (fun q => by rw [turner_Then.f]) ?_
        refine Ev.bind he4 ?_
        refine Ev.pos (hi4.2 ga) ?_
        refine Ev.bind he5 ?_
        refine Ev.pos (hi5.2 gb) ?_
        refine Ev.pos c1 ?_
        rw [w64 (n := an * bn) (by omega) (by omega)]
        exact Ev.pos c2 (Ev.now _)
      · rcases then_pairs ga gb c1 (by omega) with hT | ⟨rows, outs, hT, gP, hst⟩
        · exact bad (c := 1) (by decide) hT
        · have hr := trun_good gP w gw
          have hout := then_out ga gb c1 hst w as_ bs gw.2 ⟨ga.s0, ga.s1⟩ ⟨gb.s0, gb.s1⟩
          have hin := outT_in ga gw.2 ⟨ga.s0, ga.s1⟩
          have hl0 := outT_len ga gw.2 ⟨ga.s0, ga.s1⟩
          have hl1 := outT_len gb (w := outT ax ao as_ w) (fun x hx => by rw [← c1]; exact hin x hx) ⟨gb.s0, gb.s1⟩
          have hw12 := gw.1
          have fin : ∀ {b : Bool}, b = true → Ev (fun q => coppicerkeep_TurnerThen.j1 q b) true := by
            intro b hb
            subst hb
            exact Ev.step (fun q => by rw [coppicerkeep_TurnerThen.j1]) (Ev.now _)
          refine pre hT ?_
          refine Ev.step (fun q => by rw [coppicerkeep_TurnerThen.j0]) ?_
          refine Ev.neg (by decide) ?_
          refine Ev.pos rfl ?_
          refine Ev.pos rfl ?_
          by_cases gx : GoodW bk (outT ax ao as_ w)
          · have hr2 := trun_good gb _ gx
            have hints := ints_spec (outT bx bo bs (outT ax ao as_ w)) (outT rows outs (as_ * bn + bs) w) (by omega)
            refine Ev.bind hr2 ?_
            refine Ev.bind hr ?_
            refine Ev.pos rfl ?_
            refine Ev.neg (by have := gx.1; omega) ?_
            refine Ev.pos rfl ?_
            refine Ev.bind hints ?_
            exact fin (by rw [hout]; exact decide_eq_true rfl)
          · obtain ⟨e6, he60, he6⟩ := trun_bad (n := bn) (k := bk) (l := bl) (nx := bx) (ou := bo) (st := bs) (outT ax ao as_ w) (fun h => gx h.2)
            have hlen : (outT ax ao as_ w).length > 12 := by
              rcases Nat.lt_or_ge 12 (outT ax ao as_ w).length with h | h
              · exact h
              · exact absurd ⟨h, fun x hx => by rw [← c1]; exact hin x hx⟩ gx
            refine Ev.bind he6 ?_
            refine Ev.bind hr ?_
            refine Ev.pos rfl ?_
            refine Ev.pos (by omega) ?_
            refine Ev.neg he60 ?_
            exact fin rfl
    · refine bad (c := 3) (by decide) ?_
      refine Ev.congr (fun q => by rw [turner_Then.f]) ?_
      refine Ev.bind he4 ?_
      refine Ev.pos (hi4.2 ga) ?_
      refine Ev.bind he5 ?_
      refine Ev.pos (hi5.2 gb) ?_
      exact Ev.neg c1 (Ev.now _)
  · have key : ∃ (T : R7) (R : List Int × Int), Ev (fun q => turner_Then.f q an ak al ax ao as_ bn bk bl bx bo bs) T ∧ Ev (fun q => turner_Run.f q an ak al ax ao as_ w) R ∧ (T.2.2.2.2.2.2 = 0 → R.2 ≠ 0) := by
      by_cases g1 : GoodT an ak al ax ao as_ ∧ GoodW ak w
      · obtain ⟨ga, gw⟩ := g1
        have c5 : ¬ e5 = 0 := fun h => g ⟨⟨ga, hi5.1 h⟩, gw⟩
        refine ⟨(0, 0, 0, [], [], 0, e5), _, ?_, trun_good ga w gw, fun h => absurd h c5⟩
        refine Ev.congr (fun q => by rw [turner_Then.f]) ?_
        refine Ev.bind he4 ?_
        refine Ev.pos (hi4.2 ga) ?_
        refine Ev.bind he5 ?_
        exact Ev.neg c5 (Ev.now _)
      · obtain ⟨e6, he60, he6⟩ := trun_bad (n := an) (k := ak) (l := al) (nx := ax) (ou := ao) (st := as_) w g1
        have : ∃ T, Ev (fun q => turner_Then.f q an ak al ax ao as_ bn bk bl bx bo bs) T := by
          by_cases c4 : e4 = 0
          · by_cases c5 : e5 = 0
            · have ga := hi4.1 c4
              have gb := hi5.1 c5
              have q1 := ga.n1; have q2 := ga.n7; have q5 := gb.n1; have q6 := gb.n7
              have hmul : 0 ≤ an * bn ∧ an * bn ≤ 49 := ⟨Int.mul_nonneg (by omega) (by omega), by have : an * bn ≤ 7 * 7 := Int.mul_le_mul (by omega) (by omega) (by omega) (by omega); omega⟩
              by_cases c1 : al = bk
              · by_cases c2 : an * bn > 7
                · refine ⟨badT, ?_⟩
                  refine Ev.congr (fun q => by rw [turner_Then.f]) ?_
                  refine Ev.bind he4 (Ev.pos c4 (Ev.bind he5 (Ev.pos c5 (Ev.pos c1 ?_))))
                  rw [w64 (n := an * bn) (by omega) (by omega)]
                  exact Ev.pos c2 (Ev.now _)
                · rcases then_pairs ga gb c1 (by omega) with hT | ⟨rows, outs, hT, gP, hst⟩
                  · exact ⟨_, hT⟩
                  · exact ⟨_, hT⟩
              · refine ⟨(0, 0, 0, [], [], 0, 3), ?_⟩
                refine Ev.congr (fun q => by rw [turner_Then.f]) ?_
                refine Ev.bind he4 (Ev.pos c4 (Ev.bind he5 (Ev.pos c5 ?_)))
                exact Ev.neg c1 (Ev.now _)
            · refine ⟨(0, 0, 0, [], [], 0, e5), ?_⟩
              refine Ev.congr (fun q => by rw [turner_Then.f]) ?_
              refine Ev.bind he4 (Ev.pos c4 (Ev.bind he5 ?_))
              exact Ev.neg c5 (Ev.now _)
          · refine ⟨(0, 0, 0, [], [], 0, e4), ?_⟩
            refine Ev.congr (fun q => by rw [turner_Then.f]) ?_
            refine Ev.bind he4 ?_
            exact Ev.neg c4 (Ev.now _)
        obtain ⟨T, hT⟩ := this
        exact ⟨T, _, hT, he6, fun _ => he60⟩
    obtain ⟨T, R, hT, hR, hTR⟩ := key
    have hj : Ev (fun q => coppicerkeep_TurnerThen.j0 q w T.2.2.2.2.2.2 R.1 R.2 true bn bk bl bx bo bs T.1 T.2.1 T.2.2.1 T.2.2.2.1 T.2.2.2.2.1 T.2.2.2.2.2.1) true := by
      refine Ev.step (fun q => by rw [coppicerkeep_TurnerThen.j0]) (Ev.pos rfl ?_)
      by_cases c : T.2.2.2.2.2.2 = 0
      · refine Ev.pos c (Ev.val ?_)
        simpa using hTR c
      · exact Ev.neg c (Ev.now _)
    refine Ev.congr (fun q => by rw [coppicerkeep_TurnerThen.f]) ?_
    refine Ev.bind hT ?_
    refine Ev.bind hR ?_
    refine Ev.bind ht ?_
    by_cases c : e = 0
    · refine Ev.pos (by rw [c]; rfl) ?_
      refine Ev.bind ht3 ?_
      by_cases c3 : e3 = 0
      · refine Ev.pos (by rw [c3]; rfl) ?_
        refine Ev.bind he2 ?_
        have c2 : e2 ≠ 0 := fun h => g ⟨⟨hi.1 c, hi3.1 c3⟩, hi2.1 h⟩
        rw [show (e2 != 0) = true by simpa using c2]
        exact hj
      · exact Ev.neg (by simpa using c3) hj
    · refine Ev.neg (by simpa using c) ?_
      exact hj
end Go.Proofs.Ytlkeemcapemkiaa.Pure
