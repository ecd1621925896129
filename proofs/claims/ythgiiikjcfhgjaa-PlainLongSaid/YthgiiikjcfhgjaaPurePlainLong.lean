/- The law PlainLong, as plain Lean: the steps of a plain grammar are one fewer than twice the symbols. Conditions: none beyond the kinds of the arguments. -/
import Derived.Test.YthgiiikjcfhgjaaPULay
import Derived.Test.YthgiiikjcfhgjaaGU11
namespace Go.Proofs.Ythgiiikjcfhgjaa.Pure
set_option linter.unusedVariables false
set_option linter.unusedSimpArgs false
open Go.RowKit Go.Proofs.Ythgiiikjcfhgjaa.GU Go.Proofs.Ythgiiikjcfhgjaa.PUM Go.Proofs.YthgiiikjcfhgjaaW.PrintWords Go.Proofs.YthgiiikjcfhgjaaW.PrintLast Go.Proofs.YthgiiikjcfhgjaaW.PrintMore

theorem PlainLong : coppicerkeep_PlainLong.Pure := by
  intro k n s rs w _ _ _ _ _
  refine Ev.rounds ?_
  obtain ⟨bg, hbg, hbgi⟩ := grown_spec (k := k) (n := n) (s := s) (rs := rs) w
  obtain ⟨e, he, hei⟩ := gcheck_spec (k := k) (n := n) (s := s) (rs := rs)
  obtain ⟨b, hb, hbi⟩ := plain_spec k n s rs
  by_cases c : GoodG k n s rs ∧ GoodW k w
  · obtain ⟨g, gw⟩ := c
    have hw := gw.1
    have hk1 := g.k1
    have hk3 := g.k3
    have hn5 := g.n5
    have hs0 := g.s0
    have hs1 := g.s1
    obtain ⟨T, bt, F, hti, ht⟩ := takes_good g gw
    obtain ⟨T', S, _, _, _, hnm⟩ := names_good g gw
    have his : Ev (fun q => plain_Is.f q k n s rs) (b, 0) := by
      refine Ev.congr (fun q => by rw [plain_Is.f]) ?_
      refine Ev.bind he ?_
      refine Ev.pos (hei.2 g) ?_
      refine Ev.bindc hb ?_
      exact Ev.now _
    have fin : ∀ (l : List Int) (r : Int) (x : Bool), x = false → (if r = 0 then (some ((l.length : Int) == (wrap64 ((wrap64 (2 * (w.length : Int))) - 1)))) else (some ((l.length : Int) == 0))) = some true → Ev (fun q => coppicerkeep_PlainLong.j0 q w l r x) true := by
      rintro l r x rfl h
      refine Ev.step (fun q => by rw [coppicerkeep_PlainLong.j0]) ?_
      refine Ev.neg (by decide) (Ev.val h)
    cases b with
    | false =>
      have hst : Ev (fun q => plain_Steps.f q k n s rs w) ([], 3) := by
        refine Ev.congr (fun q => by rw [plain_Steps.f]) ?_
        refine Ev.bind hnm ?_
        refine Ev.pos rfl ?_
        refine Ev.bindc hb ?_
        refine Ev.neg (by decide) ?_
        exact Ev.now _
      refine Ev.congr (fun q => by rw [coppicerkeep_PlainLong.f]) ?_
      refine Ev.bind hst ?_
      refine Ev.bind his ?_
      refine Ev.bind hbg ?_
      refine Ev.pos (hbgi.2 ⟨g, gw⟩) ?_
      refine Ev.bind ht ?_
      refine Ev.pos rfl ?_
      refine Ev.pos rfl ?_
      refine Ev.neg (by decide) ?_
      exact fin [] 3 _ rfl rfl
    | true =>
      have hp := hbi.1 rfl
      have P := plain_proper hp
      obtain ⟨v, hv, v0, v1, vi⟩ := (count_all g hw F P w.length 0 w.length (by omega) (Nat.le_refl _)).2 (k + s) (by omega) (by omega)
      have hfam : 0 < v ↔ famT T s 0 w.length := by
        rw [vi]
        constructor
        · rintro ⟨_, (⟨_, h⟩ | ⟨h, _⟩)⟩
          · rwa [show k + s - k = s by omega] at h
          · omega
        · intro h
          exact ⟨by omega, Or.inl ⟨by omega, by rwa [show k + s - k = s by omega]⟩⟩
      have hws : wrap64 (k + s) = k + s := w64 (by omega) (by omega)
      have hv' : Ev (fun q => table_Count.sign q k rs w (wrap64 (k + s)) 0 (w.length : Int)) v := by rw [hws]; exact hv
      by_cases cv : v = 0
      · have hst : Ev (fun q => plain_Steps.f q k n s rs w) ([], 5) := by
          refine Ev.congr (fun q => by rw [plain_Steps.f]) ?_
          refine Ev.bind hnm ?_
          refine Ev.pos rfl ?_
          refine Ev.bindc hb ?_
          refine Ev.pos rfl ?_
          refine Ev.bind hv' ?_
          refine Ev.pos cv ?_
          exact Ev.now _
        have hbt : bt = false := by
          cases bt
          · rfl
          · have := hfam.2 (hti.1 rfl)
            omega
        subst hbt
        refine Ev.congr (fun q => by rw [coppicerkeep_PlainLong.f]) ?_
        refine Ev.bind hst ?_
        refine Ev.bind his ?_
        refine Ev.bind hbg ?_
        refine Ev.pos (hbgi.2 ⟨g, gw⟩) ?_
        refine Ev.bind ht ?_
        refine Ev.pos rfl ?_
        refine Ev.pos rfl ?_
        refine Ev.pos rfl ?_
        exact fin [] 5 _ rfl rfl
      · have hA := hfam.1 (by omega)
        have hpos := fam_pos F P hs0 hA
        obtain ⟨l, hl, hn⟩ := lay_good g hw F P hp w.length 0 w.length s [] (by omega) (Nat.le_refl _) hs0 hs1 hA (by simp; omega)
        rw [List.nil_append] at hl
        have hst : Ev (fun q => plain_Steps.f q k n s rs w) (l, 0) := by
          refine Ev.congr (fun q => by rw [plain_Steps.f]) ?_
          refine Ev.bind hnm ?_
          refine Ev.pos rfl ?_
          refine Ev.bindc hb ?_
          refine Ev.pos rfl ?_
          refine Ev.bind hv' ?_
          refine Ev.neg cv ?_
          refine Ev.bind (a := l) hl ?_
          exact Ev.now _
        have hbt : bt = true := hti.2 hA
        subst hbt
        refine Ev.congr (fun q => by rw [coppicerkeep_PlainLong.f]) ?_
        refine Ev.bind hst ?_
        refine Ev.bind his ?_
        refine Ev.bind hbg ?_
        refine Ev.pos (hbgi.2 ⟨g, gw⟩) ?_
        refine Ev.bind ht ?_
        refine Ev.pos rfl ?_
        refine Ev.pos rfl ?_
        refine Ev.pos rfl ?_
        refine fin l 0 _ rfl ?_
        rw [if_pos rfl, w64 (n := 2 * (w.length : Int)) (by omega) (by omega), w64 (n := 2 * (w.length : Int) - 1) (by omega) (by omega)]
        congr 1
        rw [beq_iff_eq]
        omega
  · obtain ⟨e2, hne, hnm⟩ := names_bad (k := k) (n := n) (s := s) (rs := rs) (w := w) c
    have hst : Ev (fun q => plain_Steps.f q k n s rs w) ([], e2) := by
      refine Ev.congr (fun q => by rw [plain_Steps.f]) ?_
      refine Ev.bind hnm ?_
      refine Ev.neg hne ?_
      exact Ev.now _
    have his : ∃ r, Ev (fun q => plain_Is.f q k n s rs) r := by
      by_cases ce : e = 0
      · refine ⟨(b, 0), Ev.congr (fun q => by rw [plain_Is.f]) ?_⟩
        refine Ev.bind he ?_
        refine Ev.pos ce ?_
        refine Ev.bindc hb ?_
        exact Ev.now _
      · exact ⟨(false, e), Ev.congr (fun q => by rw [plain_Is.f]) (Ev.bind he (Ev.neg ce (Ev.now _)))⟩
    obtain ⟨r, his⟩ := his
    refine Ev.congr (fun q => by rw [coppicerkeep_PlainLong.f]) ?_
    refine Ev.bind hst ?_
    refine Ev.bind his ?_
    refine Ev.bind hbg ?_
    refine Ev.neg (fun h => c (hbgi.1 h)) (Ev.val ?_)
    simpa using hne
end Go.Proofs.Ythgiiikjcfhgjaa.Pure
