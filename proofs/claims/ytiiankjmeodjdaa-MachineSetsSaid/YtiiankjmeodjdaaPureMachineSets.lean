/- The law MachineSets, as plain Lean: both machines take a word just if their machine does; and the others take what a machine does not. Conditions: none beyond the kinds of the arguments. -/
import Derived.Test.YtiiankjmeodjdaaPAPairs
import Derived.Test.YtiiankjmeodjdaaGA12
namespace Go.Proofs.Ytiiankjmeodjdaa.Pure
set_option linter.unusedVariables false
set_option linter.unusedSimpArgs false
open Go.RowKit Go.Proofs.Ytiiankjmeodjdaa.GA Go.Proofs.Ytiiankjmeodjdaa.PAM Go.Proofs.YtiiankjmeodjdaaW.PrintWords Go.Proofs.YtiiankjmeodjdaaW.PrintLast Go.Proofs.YtiiankjmeodjdaaW.PrintMore

theorem leads_pairs {an ak bn sa fa bk sb fb : Int} {nxa nxb rows : List (List Int)} (ga : GoodM an ak nxa sa fa) (gb : GoodM bn bk nxb sb fb) (hk : ak = bk)
    (hs : ∀ i j s : Int, 0 ≤ i → i < an → 0 ≤ j → j < bn → 0 ≤ s → s < ak → stepM rows (i * bn + j) s = stepM nxa i s * bn + stepM nxb j s) : ∀ (w : List Int) (i j : Int), (∀ s ∈ w, 0 ≤ s ∧ s < ak) → 0 ≤ i → i < an → 0 ≤ j → j < bn → leads rows (i * bn + j) w = leads nxa i w * bn + leads nxb j w
  | [], i, j, _, _, _, _, _ => rfl
  | s :: w, i, j, hw, i0, i1, j0, j1 => by
    have h := hw s List.mem_cons_self
    have a := stepM_in ga ⟨i0, i1⟩ h
    have b := stepM_in gb ⟨j0, j1⟩ (by rw [← hk]; exact h)
    show leads rows (stepM rows (i * bn + j) s) w = leads nxa (stepM nxa i s) w * bn + leads nxb (stepM nxb j s) w
    rw [hs i j s i0 i1 j0 j1 h.1 h.2]
    exact leads_pairs ga gb hk hs w _ _ (fun x hx => hw x (List.mem_cons_of_mem _ hx)) a.1 a.2 b.1 b.2
theorem MachineSets : coppicerkeep_MachineSets.Pure := by
  intro an ak nxa sa fa bn bk nxb sb fb w _ _ _ _ wfa _ _ _ _ wfb ww
  obtain ⟨a0, a1⟩ := wf_u32 wfa
  obtain ⟨b0, b1⟩ := wf_u32 wfb
  have a1' : fa < 4294967296 := by omega
  have b1' : fb < 4294967296 := by omega
  obtain ⟨ta, hta, hia⟩ := good_spec (n := an) (k := ak) (nx := nxa) (s := sa) a0 a1' w
  obtain ⟨tb, htb, hib⟩ := good_spec (n := bn) (k := bk) (nx := nxb) (s := sb) b0 b1' w
  refine Ev.rounds ?_
  have start : ∀ {ra rb : Int × Bool × Int} {r : Bool}, Ev (fun q => machine_Run.f q an ak nxa sa fa w) ra → Ev (fun q => machine_Run.f q bn bk nxb sb fb w) rb →
      Ev (fun q => coppicerkeep_MachineSets.j0 q w ra.2.1 ra.2.2 rb.2.1 rb.2.2 (!(ta && tb)) an ak nxa sa fa bn bk nxb sb fb) r → Ev (fun q => coppicerkeep_MachineSets.f q an ak nxa sa fa bn bk nxb sb fb w) r := by
    intro ra rb r h1 h2 h3
    refine Ev.congr (fun q => by rw [coppicerkeep_MachineSets.f]) (Ev.bind h1 (Ev.bind h2 (Ev.bind hta ?_)))
    cases ta with
    | true => exact Ev.pos rfl (Ev.bind htb h3)
    | false => exact Ev.neg (by decide) h3
  by_cases ga : GoodM an ak nxa sa fa ∧ GoodW ak w
  · have ha := run_good ga.1 a0 a1' w ga.2
    by_cases gb : GoodM bn bk nxb sb fb ∧ GoodW bk w
    · have hb := run_good gb.1 b0 b1' w gb.2
      refine start ha hb ?_
      rw [hia.2 ga, hib.2 gb]
      have la := leads_in ga.1 ga.2.2 ⟨ga.1.s0, ga.1.s1⟩
      have lb := leads_in gb.1 gb.2.2 ⟨gb.1.s0, gb.1.s1⟩
      obtain ⟨g, hg, g0, g1, gg, gbit⟩ := not_good ga.1 a0 a1'
      have hr := run_good gg g0 g1 w ga.2
      rw [gbit _ la.1 la.2] at hr
      refine Ev.step (fun q => by rw [coppicerkeep_MachineSets.j0]) (Ev.neg (by decide) (Ev.bind hg (Ev.bind hr (Ev.pos rfl (Ev.pos rfl (Ev.pos rfl (Ev.pos rfl ?_)))))))
      have e : ((!bit fa (leads nxa sa w)) == bit fa (leads nxa sa w)) = false := by cases bit fa (leads nxa sa w) <;> rfl
      show Ev (fun q => coppicerkeep_MachineSets.j1 q w (bit fa (leads nxa sa w)) (bit fb (leads nxb sb w)) ((!bit fa (leads nxa sa w)) == bit fa (leads nxa sa w)) an ak nxa sa fa bn bk nxb sb fb) true
      rw [e]
      have q1 := ga.1.n1; have q2 := ga.1.n7; have q6 := gb.1.n1; have q7 := gb.1.n7
      have hm : 0 ≤ an * bn ∧ an * bn ≤ 49 := ⟨Int.mul_nonneg (by omega) (by omega), by have : an * bn ≤ 7 * 7 := Int.mul_le_mul q2 q7 (by omega) (by omega); omega⟩
      by_cases hk : ak = bk
      · by_cases hn : an * bn > 7
        · have hbo := both_good (r := (0, 0, [], 0, 0, 1)) ga.1 gb.1 a0 a1' b0 b1' (fun h => absurd hk h) (fun _ _ => rfl) (fun _ h => by omega)
          refine Ev.step (fun q => by rw [coppicerkeep_MachineSets.j1]) (Ev.neg (by decide) (Ev.bind hbo (Ev.neg (show ¬ ((1 : Int) = 0) by decide) (Ev.pos hk (Ev.val ?_)))))
          rw [w64 (n := an * bn) (by omega) (by omega), decide_eq_true hn]
        · obtain ⟨rows, F, hp, F0, F1, gp, hs, hbit⟩ := pairs_good ga.1 gb.1 hk a0 a1' b0 b1' (by omega)
          have hbo := both_good (r := (an * bn, ak, rows, sa * bn + sb, F, 0)) ga.1 gb.1 a0 a1' b0 b1' (fun h => absurd hk h) (fun _ h => by omega) (fun _ _ p h => by
            obtain ⟨k1, h1⟩ := h
            obtain ⟨k2, h2⟩ := hp
            have e1 := h1 (max k1 k2) (Nat.le_max_left _ _)
            have e2 := h2 (max k1 k2) (Nat.le_max_right _ _)
            rw [e1] at e2
            injection e2 with e2
            rw [e2])
          have hr2 := run_good gp F0 F1 w ga.2
          rw [leads_pairs ga.1 gb.1 hk hs w sa sb ga.2.2 ga.1.s0 ga.1.s1 gb.1.s0 gb.1.s1, hbit _ _ la.1 la.2 lb.1 lb.2] at hr2
          refine Ev.step (fun q => by rw [coppicerkeep_MachineSets.j1]) (Ev.neg (by decide) (Ev.bind hbo (Ev.pos rfl (Ev.bind hr2 (Ev.pos rfl ?_)))))
          cases hx : bit fa (leads nxa sa w) with
          | true => exact Ev.pos rfl (Ev.val (by simp))
          | false => exact Ev.neg (by decide) (Ev.val (by simp))
      · have hbo := both_good (r := (0, 0, [], 0, 0, 3)) ga.1 gb.1 a0 a1' b0 b1' (fun _ => rfl) (fun h => absurd h hk) (fun h => absurd h hk)
        exact Ev.step (fun q => by rw [coppicerkeep_MachineSets.j1]) (Ev.neg (by decide) (Ev.bind hbo (Ev.neg (show ¬ ((3 : Int) = 0) by decide) (Ev.neg hk (Ev.now _)))))
    · obtain ⟨e, he0, he⟩ := run_bad b0 b1' w gb
      refine start ha he ?_
      rw [show tb = false from Bool.eq_false_iff.2 fun h => gb (hib.1 h), Bool.and_false]
      refine Ev.step (fun q => by rw [coppicerkeep_MachineSets.j0]) ?_
      refine Ev.pos (by simp) ?_
      refine Ev.pos rfl ?_
      refine Ev.val ?_
      simpa using he0
  · obtain ⟨e, he0, he⟩ := run_bad a0 a1' w ga
    rw [show ta = false from Bool.eq_false_iff.2 fun h => ga (hia.1 h), Bool.false_and] at start
    by_cases gb : GoodM bn bk nxb sb fb ∧ GoodW bk w
    · refine start he (run_good gb.1 b0 b1' w gb.2) ?_
      refine Ev.step (fun q => by rw [coppicerkeep_MachineSets.j0]) ?_
      refine Ev.pos rfl ?_
      exact Ev.neg he0 (Ev.now _)
    · obtain ⟨e2, _, he2⟩ := run_bad b0 b1' w gb
      refine start he he2 ?_
      refine Ev.step (fun q => by rw [coppicerkeep_MachineSets.j0]) ?_
      refine Ev.pos rfl ?_
      exact Ev.neg he0 (Ev.now _)
end Go.Proofs.Ytiiankjmeodjdaa.Pure
