/- The law TallyBack, as plain Lean: the word that stands at a place stands there and is taken; and all others are those that are not. Conditions: none beyond the kinds of the arguments. -/
import Derived.Test.YtiiankjmeodjdaaPCTally
import Derived.Test.YtiiankjmeodjdaaPCNot
import Derived.Test.YtiiankjmeodjdaaGC11
namespace Go.Proofs.Ytiiankjmeodjdaa.Pure
set_option linter.unusedVariables false
set_option linter.unusedSimpArgs false
open Go.RowKit Go.Proofs.Ytiiankjmeodjdaa.GC Go.Proofs.Ytiiankjmeodjdaa.PCM Go.Proofs.YtiiankjmeodjdaaW.PrintWords Go.Proofs.YtiiankjmeodjdaaW.PrintLast Go.Proofs.YtiiankjmeodjdaaW.PrintMore

theorem pow_in {k : Int} (h1 : 1 ≤ k) (h3 : k ≤ 3) : ∀ {m : Nat}, m ≤ 12 → 0 ≤ k ^ m ∧ k ^ m ≤ 3 ^ m
  | 0, _ => by simp
  | m + 1, hm => by
    have ih := pow_in h1 h3 (m := m) (by omega)
    rw [Int.pow_succ, Int.pow_succ]
    have : k ^ m * k ≤ 3 ^ m * 3 := Int.mul_le_mul ih.2 h3 (by omega) (Int.pow_nonneg (by omega))
    exact ⟨Int.mul_nonneg ih.1 (by omega), this⟩
theorem TallyBack : coppicerkeep_TallyBack.Pure := by
  intro n k nx st f m i _ _ _ _ wf wm wi
  obtain ⟨f0, f1⟩ := wf_u32 wf
  obtain ⟨m0, m1⟩ := wf_i64 wm
  have f1' : f < 4294967296 := by omega
  refine Ev.rounds ?_
  obtain ⟨e, he, hie⟩ := wrong_spec (n := n) (k := k) (nx := nx) (st := st) f0 f1' m
  obtain ⟨c, hc, hic⟩ := refcheck_spec (n := n) (k := k) (nx := nx) (s := st) f0 f1'
  by_cases g : GoodM n k nx st f ∧ 0 ≤ m ∧ m ≤ 12
  · obtain ⟨gm, g0, g1⟩ := g
    obtain ⟨M, rfl⟩ := Int.eq_ofNat_of_zero_le g0
    have hM : M ≤ 12 := by omega
    have hmany := many_good gm f0 f1' M hM
    obtain ⟨gg, hnot, n0, n1, gn, hbit⟩ := not_good gm f0 f1'
    have hmany2 := many_good gn n0 n1 M hM
    have hall := wy_not gm hbit M st ⟨gm.s0, gm.s1⟩
    have hw1 := wy_in gm f M st ⟨gm.s0, gm.s1⟩
    have hw2 := wy_in gm gg M st ⟨gm.s0, gm.s1⟩
    have h3 := three_pow hM
    obtain ⟨wy1, wy2⟩ := word_good gm f0 f1' M hM i
    have k1 := gm.k1; have k3 := gm.k3
    -- behind the loop that multiplies
    have main : ∀ (w : List Int) (x : Int), Ev (fun q => tally_Word.f q n k nx st f (M : Int) i) (w, x) →
        Ev (fun q => coppicerkeep_TallyBack.j2 q (M : Int) i w x (if i ≥ 0 then ((x == 0) != (decide (i < wy nx f M st))) else ((x == 0) != false)) n k nx st f) true → Ev (fun q => coppicerkeep_TallyBack.f q n k nx st f (M : Int) i) true := by
      intro w x hwd hj
      refine Ev.congr (fun q => by rw [coppicerkeep_TallyBack.f]) (Ev.bind hmany (Ev.bind hwd (Ev.bind hc (Ev.pos (hic.2 gm) ?_))))
      refine Ev.neg (by omega) ?_
      rw [decide_eq_false (by omega)]
      refine Ev.step (fun q => by rw [coppicerkeep_TallyBack.j0]) (Ev.neg (by decide) (Ev.bind hnot (Ev.bind hmany2 ?_)))
      have loop : ∀ (d t : Nat), t + d = M → Ev (fun q => coppicerkeep_TallyBack.l0 q (M : Int) i (wy nx f M st) 0 w x 0 (wy nx gg M st) 0 (k ^ t) (t : Int) n k nx st f) true := by
        intro d
        induction d with
        | zero =>
          intro t ht
          obtain rfl : t = M := by omega
          refine Ev.step (fun q => by rw [coppicerkeep_TallyBack.l0]) (Ev.neg (by omega) (Ev.pos rfl (Ev.pos rfl (Ev.pos rfl ?_))))
          rw [w64 (n := wy nx f t st + wy nx gg t st) (by omega) (by omega)]
          refine Ev.pos hall (Ev.neg (by omega) (Ev.neg (by omega) ?_))
          by_cases ci : i ≥ 0
          · rw [if_pos ci] at hj; exact Ev.pos ci hj
          · rw [if_neg ci] at hj; exact Ev.neg ci hj
        | succ d ih =>
          intro t ht
          have hp := pow_in k1 k3 (m := t + 1) (by omega)
          have hp3 := three_pow (show t + 1 ≤ 12 by omega)
          refine Ev.step (fun q => by rw [coppicerkeep_TallyBack.l0]) (Ev.pos (by omega) ?_)
          have hn := ih (t + 1) (by omega)
          rw [Int.pow_succ] at hp hn
          rw [w64 (n := (t : Int) + 1) (by omega) (by omega), w64 (n := k ^ t * k) (by omega) (by omega)]
          exact hn
      have := loop M 0 (by omega)
      rw [Int.pow_zero] at this
      exact this
    by_cases ci : 0 ≤ i ∧ i < wy nx f M st
    · obtain ⟨w, e1, e2, e3, e4, e5⟩ := wy1 ci
      refine main w 0 e5 ?_
      rw [if_pos ci.1, decide_eq_true ci.2]
      have gw : GoodW k w := ⟨by omega, e2⟩
      refine Ev.step (fun q => by rw [coppicerkeep_TallyBack.j2]) ?_
      refine Ev.neg (by decide) ?_
      refine Ev.pos rfl ?_
      refine Ev.bind (place_good gm f0 f1' w gw) ?_
      refine Ev.bind (run_good gm f0 f1' w gw) ?_
      refine Ev.pos rfl ?_
      refine Ev.pos rfl ?_
      refine Ev.pos e4 ?_
      refine Ev.pos e3 (Ev.val ?_)
      simp [e1]
    · refine main [] 5 (wy2 ci) ?_
      have eb : (if i ≥ 0 then (((5 : Int) == 0) != (decide (i < wy nx f M st))) else (((5 : Int) == 0) != false)) = false := by
        by_cases c0 : i ≥ 0
        · rw [if_pos c0, decide_eq_false (by omega)]; rfl
        · rw [if_neg c0]; rfl
      rw [eb]
      refine Ev.step (fun q => by rw [coppicerkeep_TallyBack.j2]) ?_
      refine Ev.neg (by decide) ?_
      refine Ev.neg (by decide) ?_
      exact Ev.now _
  · have e0 : e ≠ 0 := fun h => g (hie.1 h)
    have hmany : Ev (fun q => tally_Many.f q n k nx st f m) (0, e) := Ev.congr (fun q => by rw [tally_Many.f]) (Ev.bind he (Ev.neg e0 (Ev.now _)))
    have hword : Ev (fun q => tally_Word.f q n k nx st f m i) ([], e) := Ev.congr (fun q => by rw [tally_Word.f]) (Ev.bind he (Ev.neg e0 (Ev.now _)))
    have end_ : Ev (fun q => coppicerkeep_TallyBack.j0 q m i 0 e [] e true n k nx st f) true := by
      refine Ev.step (fun q => by rw [coppicerkeep_TallyBack.j0]) ?_
      refine Ev.pos rfl ?_
      refine Ev.neg e0 (Ev.val ?_)
      simpa using e0
    refine Ev.congr (fun q => by rw [coppicerkeep_TallyBack.f]) (Ev.bind hmany (Ev.bind hword (Ev.bind hc ?_)))
    by_cases c0 : c = 0
    · refine Ev.pos c0 ?_
      by_cases cm : m < 0
      · exact Ev.pos cm end_
      · refine Ev.neg cm ?_
        rw [decide_eq_true (show m > 12 from Classical.byContradiction fun h => g ⟨hic.1 c0, by omega, by omega⟩)]
        exact end_
    · exact Ev.neg c0 end_
end Go.Proofs.Ytiiankjmeodjdaa.Pure
