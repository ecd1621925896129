/- The law LeastBack, as plain Lean: the machine turned round and made sure, twice, is the least one. Conditions: none beyond the kinds of the arguments. -/
import Derived.Test.YtllnipefceonmaaPAMcheck
import Derived.Test.YtllnipefceonmaaGA21
namespace Go.Proofs.Ytllnipefceonmaa.Pure
set_option linter.unusedVariables false
set_option linter.unusedSimpArgs false
open Go.RowKit Go.Proofs.Ytllnipefceonmaa.GA Go.Proofs.Ytllnipefceonmaa.PAM Go.Proofs.YtllnipefceonmaaW.PrintWords Go.Proofs.YtllnipefceonmaaW.PrintLast Go.Proofs.YtllnipefceonmaaW.PrintMore

theorem room {n : Int} (h : n ≤ 7) {x : Int} (hx : x < 2 ^ n.toNat) : x < 4294967296 := by
  rw [pow_cast] at hx
  have := pow_le7 (m := n.toNat) (by omega)
  omega
theorem LeastBack : coppicerkeep_LeastBack.Pure := by
  intro n k nx st f _ _ _ _ wf
  obtain ⟨f0, f1⟩ := wf_u32 wf
  have f1' : f < 4294967296 := by omega
  obtain ⟨e1, he1, hi1⟩ := check_spec (n := n) (k := k) (nx := nx) (s := st) f0 f1'
  obtain ⟨r1, hr1, hj1⟩ := refcheck_spec (n := n) (k := k) (nx := nx) (s := st) f0 f1'
  refine Ev.rounds ?_
  by_cases c : GoodM n k nx st f
  · obtain ⟨N, nextN, T, T0, T1, gN, hN, hw, reach, first, apart, hs⟩ := Small_good c f0 f1'
    have hN1 := gN.n1
    have hN7 := gN.n7
    have hNl := gN.len
    have hk3 := gN.k3
    have hn7 := c.n7
    have hs0 := c.s0
    have hs1 := c.s1
    have la : Ev (fun q => least_Least.f q n k nx st f) (N, k, nextN, 0, T, 0) := by
      refine Ev.congr (fun q => by rw [least_Least.f]) ?_
      refine Ev.bind he1 ?_
      refine Ev.pos (hi1.2 c) ?_
      refine Ev.bind hs ?_
      exact Ev.now _
    obtain ⟨W, hl, hW, hwh⟩ := whole_good c
    have p1 : (2 : Int) ^ st.toNat < 2 ^ n.toNat := by
      rw [pow_cast, pow_cast]
      exact Int.ofNat_lt.2 (Nat.pow_lt_pow_right (by omega) (by omega))
    have p0 : (0 : Int) ≤ 2 ^ st.toNat := by rw [pow_cast]; exact Int.natCast_nonneg _
    have gW : GoodN n k W (2 ^ st.toNat) f := whole_goodN c hW hl p1 c.f1
    have hb := back_good gW p0 (room hn7 p1) f0 f1'
    refine Ev.congr (fun q => by rw [coppicerkeep_LeastBack.f]) ?_
    refine Ev.bind la ?_
    refine Ev.bind hr1 ?_
    refine Ev.pos (hj1.2 c) ?_
    refine Ev.pos rfl ?_
    refine Ev.step (fun q => by rw [coppicerkeep_LeastBack.j0]) ?_
    refine Ev.neg (show ¬ decide (N < 1) = true by rw [decide_eq_true_iff]; omega) ?_
    refine Ev.bind hwh ?_
    refine Ev.bind hb ?_
    rcases sure_good (goodN_back gW) f0 f1' p0 (room hn7 p1) with ⟨_, _, _, _, _, _, _, h⟩ | ⟨sets, next, F2, F20, F21, g2, h0, inv, hnl, hF2, h⟩
    · refine Ev.bind h ?_
      refine Ev.pos rfl ?_
      refine Ev.neg (show ¬ (1 : Int) = 0 by decide) ?_
      exact Ev.now _
    · refine Ev.bind h ?_
      refine Ev.pos rfl ?_
      refine Ev.pos rfl ?_
      obtain ⟨W2, hl2, hW2, hwh2⟩ := whole_good g2
      have h27 := g2.n7
      have h2n := g2.n1
      have p2 : (2 : Int) ^ (0 : Int).toNat < 2 ^ ((sets.length : Int)).toNat := by
        rw [pow_cast, pow_cast]
        exact Int.ofNat_lt.2 (Nat.pow_lt_pow_right (by omega) (by rw [Int.toNat_natCast]; show 0 < sets.length; omega))
      have q0 : (0 : Int) ≤ 2 ^ (0 : Int).toNat := by rw [pow_cast]; exact Int.natCast_nonneg _
      have gW2 : GoodN sets.length k W2 (2 ^ (0 : Int).toNat) F2 := whole_goodN g2 hW2 hl2 p2 g2.f1
      have hb2 := back_good gW2 q0 (room h27 p2) F20 F21
      refine Ev.bind hwh2 ?_
      refine Ev.bind hb2 ?_
      rcases sure_good (goodN_back gW2) F20 F21 q0 (room h27 p2) with ⟨sets3, next3, h37, hnl3, hp3, h03, inv3, h3⟩ | ⟨sets3, next3, F3, F30, F31, g3, h03, inv3, hnl3, hF3, h3⟩
      · exfalso
        have := (twice_least c f0 hW hl g2 F20 inv hnl h0 hF2 hW2 hl2 inv3 hnl3 h03 hp3 gN hw reach first apart).1
        omega
      · have h3n := g3.n1
        obtain ⟨x1, x2, x3⟩ := twice_least c f0 hW hl g2 F20 inv hnl h0 hF2 hW2 hl2 inv3 hnl3 h03 (by omega) gN hw reach first apart
        subst x1
        have eN : nextN = next3 := tables_same hNl g3.len gN.row g3.row x2
        have eT : T = F3 := finals_same T0 F30 gN.f1 g3.f1 (fun i hi => by
          rw [x3 i hi, hF3 i (by omega) hi, Int.toNat_natCast, Bool.eq_iff_iff, decide_eq_true_iff, and_zero]
          constructor
          · intro h
            exact ⟨0, h, by rw [two_pow_bit]; rfl⟩
          · rintro ⟨q, b1, b2⟩
            rw [two_pow_bit, decide_eq_true_iff] at b2
            have : q = 0 := b2.symm
            rw [this] at b1
            exact b1)
        refine Ev.bind h3 ?_
        refine Ev.pos rfl ?_
        refine Ev.pos rfl ?_
        refine Ev.bind (msame (a := nextN) (b := next3) (by omega) (fun l hl => by have := gN.row l hl; omega) rfl rfl eT eN) ?_
        exact Ev.step (fun q => by rw [coppicerkeep_LeastBack.j1]) (Ev.now _)
  · have hne : ¬ e1 = 0 := fun h => c (hi1.1 h)
    have la : Ev (fun q => least_Least.f q n k nx st f) (0, 0, [], 0, 0, e1) := by
      refine Ev.congr (fun q => by rw [least_Least.f]) ?_
      refine Ev.bind he1 ?_
      refine Ev.neg hne ?_
      exact Ev.now _
    refine Ev.congr (fun q => by rw [coppicerkeep_LeastBack.f]) ?_
    refine Ev.bind la ?_
    refine Ev.bind hr1 ?_
    refine Ev.neg (fun h => c (hj1.1 h)) (Ev.val ?_)
    simpa using hne
end Go.Proofs.Ytllnipefceonmaa.Pure
