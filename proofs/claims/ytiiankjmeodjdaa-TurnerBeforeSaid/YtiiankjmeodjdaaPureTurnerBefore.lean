/- The law TurnerBefore, as plain Lean: the machine of turner and machine takes a word just if the machine takes what the turner writes for it. Conditions: none beyond the kinds of the arguments. -/
import Derived.Test.YtiiankjmeodjdaaPVMcheck
import Derived.Test.YtiiankjmeodjdaaGV11
namespace Go.Proofs.Ytiiankjmeodjdaa.Pure
set_option linter.unusedVariables false
set_option linter.unusedSimpArgs false
open Go.RowKit Go.Proofs.Ytiiankjmeodjdaa.GV Go.Proofs.Ytiiankjmeodjdaa.PVM Go.Proofs.YtiiankjmeodjdaaW.PrintWords Go.Proofs.YtiiankjmeodjdaaW.PrintLast Go.Proofs.YtiiankjmeodjdaaW.PrintMore

theorem leads_pair {tn tk tl ts mn_ mk ms mf : Int} {tx : List (List Int)} {ou : List (List (List Int))} {mx_ rows : List (List Int)} (gt : GoodT tn tk tl tx ou ts) (gm : GoodM mn_ mk mx_ ms mf) (hk : tl = mk)
    (hst : ∀ i j s : Int, 0 ≤ i → i < tn → 0 ≤ j → j < mn_ → 0 ≤ s → s < tk → stepM rows (i * mn_ + j) s = PVM.stepT tx i s * mn_ + leads mx_ j (outS ou i s)) : ∀ (w : List Int) (i j : Int), (∀ s ∈ w, 0 ≤ s ∧ s < tk) → 0 ≤ i ∧ i < tn → 0 ≤ j ∧ j < mn_ →
    leads rows (i * mn_ + j) w = leadsT tx i w * mn_ + leads mx_ j (outT tx ou i w) ∧ (0 ≤ leadsT tx i w ∧ leadsT tx i w < tn) ∧ (0 ≤ leads mx_ j (outT tx ou i w) ∧ leads mx_ j (outT tx ou i w) < mn_) ∧ ∀ x ∈ outT tx ou i w, 0 ≤ x ∧ x < mk
  | [], i, j, _, hi, hj => ⟨rfl, hi, hj, fun x hx => absurd hx (by simp [outT])⟩
  | s :: w, i, j, hw, hi, hj => by
    have hs := hw s List.mem_cons_self
    have h1 := (stepT_in gt hi hs).1
    have hlo := gt.lo
    have hr := (gt.row i.toNat (by omega)).2
    have m1 : ou.getD i.toNat [] ∈ ou := getD_mem (by omega)
    have m2 : (ou.getD i.toNat []).getD s.toNat [] ∈ ou.getD i.toNat [] := getD_mem (by omega)
    have ho : ∀ x ∈ outS ou i s, 0 ≤ x ∧ x < mk := fun x hx => by rw [← hk]; exact gt.eo _ m1 _ m2 x hx
    have h2 := leads_in gm ho hj
    obtain ⟨a1, a2, a3, a4⟩ := leads_pair gt gm hk hst w _ _ (fun x hx => hw x (List.mem_cons_of_mem _ hx)) h1 h2
    have e1 : leads rows (i * mn_ + j) (s :: w) = leads rows (stepM rows (i * mn_ + j) s) w := rfl
    have e2 : leadsT tx i (s :: w) = leadsT tx (PVM.stepT tx i s) w := rfl
    have e3 : leads mx_ j (outT tx ou i (s :: w)) = leads mx_ (leads mx_ j (outS ou i s)) (outT tx ou (PVM.stepT tx i s) w) := by
      rw [outT]
      unfold leads
      rw [List.foldl_append]
    rw [e1, e2, e3, hst i j s hi.1 hi.2 hj.1 hj.2 hs.1 hs.2]
    refine ⟨a1, a2, a3, fun x hx => ?_⟩
    rw [outT] at hx
    exact (List.mem_append.1 hx).elim (ho x) (a4 x)
theorem TurnerBefore : coppicerkeep_TurnerBefore.Pure := by
  intro tn tk tl tx ou ts mn_ mk mx_ ms mf w _ _ _ _ _ _ _ _ _ _ wf ww
  obtain ⟨f0, f1⟩ := wf_u32 wf
  have f1' : mf < 4294967296 := by omega
  obtain ⟨e, he, hi⟩ := rturner_spec (n := tn) (k := tk) (l := tl) (nx := tx) (ou := ou) (s := ts)
  obtain ⟨e2, he2, hi2⟩ := wordcheck_spec tk w
  obtain ⟨e3, he3, hi3⟩ := refcheck_spec (n := mn_) (k := mk) (nx := mx_) (s := ms) f0 f1'
  obtain ⟨e4, he4, hi4⟩ := tcheck_spec (n := tn) (k := tk) (l := tl) (nx := tx) (ou := ou) (s := ts)
  obtain ⟨e5, he5, hi5⟩ := check_spec (n := mn_) (k := mk) (nx := mx_) (s := ms) f0 f1'
  have ht : Ev (fun q => coppicerkeep_turning.f q tn tk tl tx ou ts) (e == 0) := Ev.congr (fun q => by rw [coppicerkeep_turning.f]) (Ev.bind he (Ev.now _))
  refine Ev.rounds ?_
  by_cases g : (GoodT tn tk tl tx ou ts ∧ GoodM mn_ mk mx_ ms mf) ∧ GoodW tk w
  · obtain ⟨⟨gt, gm⟩, gw⟩ := g
    have q1 := gt.n1; have q2 := gt.n7; have q5 := gm.n1; have q6 := gm.n7
    have hmul : 0 ≤ tn * mn_ ∧ tn * mn_ ≤ 49 := ⟨Int.mul_nonneg (by omega) (by omega), by have : tn * mn_ ≤ 7 * 7 := Int.mul_le_mul (by omega) (by omega) (by omega) (by omega); omega⟩
    have hrun := trun_good gt w gw
    have pre : ∀ {T : Int × Int × List (List Int) × Int × Int × Int} {r : Bool}, Ev (fun q => turner_Takes.f q tn tk tl tx ou ts mn_ mk mx_ ms mf) T → Ev (fun q => coppicerkeep_TurnerBefore.j0 q w T.2.2.2.2.2 (outT tx ou ts w) 0 false mn_ mk mx_ ms mf T.1 T.2.1 T.2.2.1 T.2.2.2.1 T.2.2.2.2.1) r → Ev (fun q => coppicerkeep_TurnerBefore.f q tn tk tl tx ou ts mn_ mk mx_ ms mf w) r := by
      intro T r h1 h2
      refine Ev.congr (fun q => by rw [coppicerkeep_TurnerBefore.f]) ?_
      refine Ev.bind h1 ?_
      refine Ev.bind hrun ?_
      refine Ev.bind ht ?_
      refine Ev.pos (by rw [hi.2 gt]; rfl) ?_
      refine Ev.bind he3 ?_
      refine Ev.pos (hi3.2 gm) ?_
      refine Ev.bind he2 ?_
      rw [hi2.2 gw]
      exact h2
    have bad : ∀ {c : Int}, c ≠ 0 → Ev (fun q => turner_Takes.f q tn tk tl tx ou ts mn_ mk mx_ ms mf) (0, 0, [], 0, 0, c) → Ev (fun q => coppicerkeep_TurnerBefore.f q tn tk tl tx ou ts mn_ mk mx_ ms mf w) true := by
      intro c hc h
      refine pre h ?_
      refine Ev.step (fun q => by rw [coppicerkeep_TurnerBefore.j0]) ?_
      refine Ev.neg (by decide) ?_
      refine Ev.pos rfl ?_
      exact Ev.neg hc (Ev.now _)
    by_cases c1 : tl = mk
    · by_cases c2 : tn * mn_ > 7
      · refine bad (c := 1) (by decide) ?_
        refine Ev.congr (fun q => by rw [turner_Takes.f]) ?_
        refine Ev.bind he4 ?_
        refine Ev.pos (hi4.2 gt) ?_
        refine Ev.bind he5 ?_
        refine Ev.pos (hi5.2 gm) ?_
        refine Ev.pos c1 ?_
        rw [w64 (n := tn * mn_) (by omega) (by omega)]
        exact Ev.pos c2 (Ev.now _)
      · obtain ⟨rows, F, hT, F0, F1, gP, hst, hbit⟩ := takes_pairs gt gm c1 f0 f1' (by omega)
        have hr := run_good gP F0 F1 w gw
        obtain ⟨l1, l2, l3, l4⟩ := leads_pair gt gm c1 hst w ts ms gw.2 ⟨gt.s0, gt.s1⟩ ⟨gm.s0, gm.s1⟩
        refine pre hT ?_
        refine Ev.step (fun q => by rw [coppicerkeep_TurnerBefore.j0]) ?_
        refine Ev.neg (by decide) ?_
        refine Ev.pos rfl ?_
        refine Ev.pos rfl ?_
        refine Ev.bind hr ?_
        have eb : bit F (leads rows (ts * mn_ + ms) w) = bit mf (leads mx_ ms (outT tx ou ts w)) := by
          rw [l1]
          exact hbit _ _ l2.1 l2.2 l3.1 l3.2
        by_cases gx : GoodW mk (outT tx ou ts w)
        · have hr2 := run_good gm f0 f1' _ gx
          refine Ev.bind hr2 ?_
          refine Ev.pos rfl ?_
          refine Ev.neg (by have := gx.1; omega) ?_
          refine Ev.pos rfl (Ev.val ?_)
          rw [eb]
          simp
        · obtain ⟨e6, he60, he6⟩ := run_bad (n := mn_) (k := mk) (nx := mx_) (st := ms) f0 f1' (outT tx ou ts w) (fun h => gx h.2)
          have hlen : (outT tx ou ts w).length > 12 := by
            rcases Nat.lt_or_ge 12 (outT tx ou ts w).length with h | h
            · exact h
            · exact absurd ⟨h, l4⟩ gx
          refine Ev.bind he6 ?_
          refine Ev.pos rfl ?_
          refine Ev.pos (by omega) ?_
          exact Ev.neg he60 (Ev.now _)
    · refine bad (c := 3) (by decide) ?_
      refine Ev.congr (fun q => by rw [turner_Takes.f]) ?_
      refine Ev.bind he4 ?_
      refine Ev.pos (hi4.2 gt) ?_
      refine Ev.bind he5 ?_
      refine Ev.pos (hi5.2 gm) ?_
      exact Ev.neg c1 (Ev.now _)
  · have key : ∃ (T : Int × Int × List (List Int) × Int × Int × Int) (R : List Int × Int), Ev (fun q => turner_Takes.f q tn tk tl tx ou ts mn_ mk mx_ ms mf) T ∧ Ev (fun q => turner_Run.f q tn tk tl tx ou ts w) R ∧ (T.2.2.2.2.2 = 0 → R.2 ≠ 0) := by
      by_cases g1 : GoodT tn tk tl tx ou ts ∧ GoodW tk w
      · obtain ⟨gt, gw⟩ := g1
        have c5 : ¬ e5 = 0 := fun h => g ⟨⟨gt, hi5.1 h⟩, gw⟩
        refine ⟨(0, 0, [], 0, 0, e5), _, ?_, trun_good gt w gw, fun h => absurd h c5⟩
        refine Ev.congr (fun q => by rw [turner_Takes.f]) ?_
        refine Ev.bind he4 ?_
        refine Ev.pos (hi4.2 gt) ?_
        refine Ev.bind he5 ?_
        exact Ev.neg c5 (Ev.now _)
      · obtain ⟨e6, he60, he6⟩ := trun_bad (n := tn) (k := tk) (l := tl) (nx := tx) (ou := ou) (st := ts) w g1
        have : ∃ T, Ev (fun q => turner_Takes.f q tn tk tl tx ou ts mn_ mk mx_ ms mf) T := by
          by_cases c4 : e4 = 0
          · by_cases c5 : e5 = 0
            · have gt := hi4.1 c4
              have gm := hi5.1 c5
              have q1 := gt.n1; have q2 := gt.n7; have q5 := gm.n1; have q6 := gm.n7
              have hmul : 0 ≤ tn * mn_ ∧ tn * mn_ ≤ 49 := ⟨Int.mul_nonneg (by omega) (by omega), by have : tn * mn_ ≤ 7 * 7 := Int.mul_le_mul (by omega) (by omega) (by omega) (by omega); omega⟩
              by_cases c1 : tl = mk
              · by_cases c2 : tn * mn_ > 7
                · refine ⟨(0, 0, [], 0, 0, 1), ?_⟩
                  refine Ev.congr (fun q => by rw [turner_Takes.f]) ?_
                  refine Ev.bind he4 (Ev.pos c4 (Ev.bind he5 (Ev.pos c5 (Ev.pos c1 ?_))))
                  rw [w64 (n := tn * mn_) (by omega) (by omega)]
                  exact Ev.pos c2 (Ev.now _)
                · obtain ⟨rows, F, hT, _⟩ := takes_pairs gt gm c1 f0 f1' (by omega)
                  exact ⟨_, hT⟩
              · refine ⟨(0, 0, [], 0, 0, 3), ?_⟩
                refine Ev.congr (fun q => by rw [turner_Takes.f]) ?_
                refine Ev.bind he4 (Ev.pos c4 (Ev.bind he5 (Ev.pos c5 ?_)))
                exact Ev.neg c1 (Ev.now _)
            · refine ⟨(0, 0, [], 0, 0, e5), ?_⟩
              refine Ev.congr (fun q => by rw [turner_Takes.f]) ?_
              refine Ev.bind he4 (Ev.pos c4 (Ev.bind he5 ?_))
              exact Ev.neg c5 (Ev.now _)
          · refine ⟨(0, 0, [], 0, 0, e4), ?_⟩
            refine Ev.congr (fun q => by rw [turner_Takes.f]) ?_
            refine Ev.bind he4 ?_
            exact Ev.neg c4 (Ev.now _)
        obtain ⟨T, hT⟩ := this
        exact ⟨T, _, hT, he6, fun _ => he60⟩
    obtain ⟨T, R, hT, hR, hTR⟩ := key
    have hj : Ev (fun q => coppicerkeep_TurnerBefore.j0 q w T.2.2.2.2.2 R.1 R.2 true mn_ mk mx_ ms mf T.1 T.2.1 T.2.2.1 T.2.2.2.1 T.2.2.2.2.1) true := by
      refine Ev.step (fun q => by rw [coppicerkeep_TurnerBefore.j0]) (Ev.pos rfl ?_)
      by_cases c : T.2.2.2.2.2 = 0
      · refine Ev.pos c (Ev.val ?_)
        simpa using hTR c
      · exact Ev.neg c (Ev.now _)
    refine Ev.congr (fun q => by rw [coppicerkeep_TurnerBefore.f]) ?_
    refine Ev.bind hT ?_
    refine Ev.bind hR ?_
    refine Ev.bind ht ?_
    by_cases c : e = 0
    · refine Ev.pos (by rw [c]; rfl) ?_
      refine Ev.bind he3 ?_
      by_cases c3 : e3 = 0
      · refine Ev.pos c3 ?_
        refine Ev.bind he2 ?_
        have c2 : e2 ≠ 0 := fun h => g ⟨⟨hi.1 c, hi3.1 c3⟩, hi2.1 h⟩
        rw [show (e2 != 0) = true by simpa using c2]
        exact hj
      · exact Ev.neg c3 hj
    · refine Ev.neg (by simpa using c) ?_
      exact hj
end Go.Proofs.Ytiiankjmeodjdaa.Pure
