/- The law TurnerFront, as plain Lean: what is written for a word's beginning begins what is written for all. Conditions: none beyond the kinds of the arguments. -/
import Derived.Test.YtiiankjmeodjdaaPTWrites
import Derived.Test.YtiiankjmeodjdaaPTRturner
import Derived.Test.YtiiankjmeodjdaaPTWcheck
import Derived.Test.YtiiankjmeodjdaaPTEq
import Derived.Test.YtiiankjmeodjdaaGT7
namespace Go.Proofs.Ytiiankjmeodjdaa.Pure
set_option linter.unusedVariables false
set_option linter.unusedSimpArgs false
open Go.RowKit Go.Proofs.Ytiiankjmeodjdaa.GT Go.Proofs.Ytiiankjmeodjdaa.PTM Go.Proofs.YtiiankjmeodjdaaW.PrintWords Go.Proofs.YtiiankjmeodjdaaW.PrintLast Go.Proofs.YtiiankjmeodjdaaW.PrintMore

theorem TurnerFront : coppicerkeep_TurnerFront.Pure := by
  intro n k l nx ou st w c _ _ _ wn wo _ ww wc
  obtain ⟨c0, c1⟩ := wf_u8 wc
  obtain ⟨e, he, hi⟩ := rturner_spec (n := n) (k := k) (l := l) (nx := nx) (ou := ou) (s := st)
  obtain ⟨e2, he2, hi2⟩ := wordcheck_spec k w
  have ht : Ev (fun q => coppicerkeep_turning.f q n k l nx ou st) (e == 0) := Ev.congr (fun q => by rw [coppicerkeep_turning.f]) (Ev.bind he (Ev.now _))
  refine Ev.rounds ?_
  refine Ev.congr (fun q => by rw [coppicerkeep_TurnerFront.f]) ?_
  by_cases g : GoodT n k l nx ou st ∧ GoodW k w
  · obtain ⟨gt, gw⟩ := g
    have hwl := gw.1
    refine Ev.bind (trun_good gt w gw) ?_
    refine Ev.bind ht ?_
    refine Ev.pos (by rw [hi.2 gt]; rfl) ?_
    refine Ev.bind he2 ?_
    rw [hi2.2 gw]
    refine Ev.step (fun q => by rw [coppicerkeep_TurnerFront.j0]) ?_
    refine Ev.neg (by decide) ?_
    rw [w64 (n := (w.length : Int) + 1) (by omega) (by omega), w64 (n := c) (by omega) (by omega), tm c0]
    obtain ⟨m, hm⟩ := Int.eq_ofNat_of_zero_le (Int.emod_nonneg c (show ((w.length : Int) + 1) ≠ 0 by omega))
    have hmlt := Int.emod_lt_of_pos c (show (0 : Int) < (w.length : Int) + 1 by omega)
    rw [hm] at hmlt ⊢
    refine Ev.neg (by omega) ?_
    refine Ev.pos (by omega) ?_
    refine Ev.pos (by omega) ?_
    rw [Int.toNat_natCast]
    have gw2 : GoodW k (w.take m) := ⟨by rw [List.length_take]; omega, fun s hs => gw.2 s (List.mem_of_mem_take hs)⟩
    refine Ev.bind (trun_good gt _ gw2) ?_
    refine Ev.bind (rwrites_good gt w gw ⟨gt.s0, gt.s1⟩) ?_
    have e3 : outT nx ou st w = outT nx ou st (w.take m) ++ outT nx ou (leadsT nx st (w.take m)) (w.drop m) := by
      rw [← outT_app, List.take_append_drop]
    have hl1 := outT_len gt gw2.2 ⟨gt.s0, gt.s1⟩
    have hl2 := gw2.1
    refine Ev.pos rfl ?_
    refine Ev.pos rfl ?_
    refine Ev.pos rfl ?_
    refine Ev.pos (by
      show ((outT nx ou st (w.take m)).length : Int) ≤ ((outT nx ou st w).length : Int)
      rw [e3, List.length_append]
      omega) ?_
    refine Ev.pos (by omega) ?_
    rw [Int.toNat_natCast]
    have e4 : (outT nx ou st w).take (outT nx ou st (w.take m)).length = outT nx ou st (w.take m) := by
      rw [e3, List.take_left]
    refine Ev.bind (ints_spec _ _ (by
      show (outT nx ou st (w.take m)).length ≤ 1000
      omega)) (Ev.val ?_)
    show some (decide (outT nx ou st (w.take m) = (outT nx ou st w).take (outT nx ou st (w.take m)).length)) = some true
    rw [e4]
    simp
  · obtain ⟨e3, he30, he3⟩ := trun_bad (n := n) (k := k) (l := l) (nx := nx) (ou := ou) (st := st) w g
    have hj : Ev (fun q => coppicerkeep_TurnerFront.j0 q w c [] e3 true n k l nx ou st) true := by
      refine Ev.step (fun q => by rw [coppicerkeep_TurnerFront.j0]) (Ev.pos rfl (Ev.val ?_))
      simpa using he30
    refine Ev.bind he3 ?_
    refine Ev.bind ht ?_
    by_cases c2 : e = 0
    · refine Ev.pos (by rw [c2]; rfl) ?_
      refine Ev.bind he2 ?_
      have c3 : e2 ≠ 0 := fun h => g ⟨hi.1 c2, hi2.1 h⟩
      rw [show (e2 != 0) = true by simpa using c3]
      exact hj
    · refine Ev.neg (by simpa using c2) ?_
      exact hj
end Go.Proofs.Ytiiankjmeodjdaa.Pure
