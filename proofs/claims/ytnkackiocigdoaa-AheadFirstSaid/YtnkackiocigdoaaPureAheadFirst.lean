/- The law AheadFirst, as plain Lean: a word with a symbol that is taken begins with what the first name may begin with; and behind that name a word may end. Conditions: none beyond the kinds of the arguments. -/
import Derived.Test.YtnkackiocigdoaaPEBit
import Derived.Test.YtnkackiocigdoaaGE16
namespace Go.Proofs.Ytnkackiocigdoaa.Pure
set_option linter.unusedVariables false
set_option linter.unusedSimpArgs false
open Go.RowKit Go.Proofs.Ytnkackiocigdoaa.GE Go.Proofs.Ytnkackiocigdoaa.PEM Go.Proofs.YtnkackiocigdoaaW.PrintWords Go.Proofs.YtnkackiocigdoaaW.PrintLast Go.Proofs.YtnkackiocigdoaaW.PrintMore

theorem begin_sub (k : Int) (F : List Int) (V : Nat) : ∀ (l : List Int) (S : Nat), Sub S (beginS k F V S l).1
  | [], S => Sub.refl S
  | x :: l, S => by
    have h1 : ∀ e, Sub S (S ||| e) := fun e i hi => by rw [Nat.testBit_or, hi, Bool.true_or]
    unfold beginS
    split
    · exact h1 _
    · split
      · exact (h1 _).trans (begin_sub k F V l _)
      · exact h1 _
/-- What a name makes: nothing only if it may; else it begins with what it may begin with. -/
def Beg (w F : List Int) (V : Nat) (x : Int) (i j : Nat) : Prop := i ≤ j ∧ (i = j → V.testBit x.toNat = true) ∧ (i < j → (el F x.toNat).testBit (w.getD i 0).toNat = true)
theorem chain_beg {k : Int} {w F : List Int} {V : Nat} : ∀ {l : List Int} {i j : Nat}, ChainR k w (Beg w F V) l i j →
    i ≤ j ∧ (i = j → ∀ x ∈ l, k ≤ x ∧ V.testBit (x - k).toNat = true) ∧ (i < j → ∀ S, (beginS k F V S l).1.testBit (w.getD i 0).toNat = true)
  | [], i, j, h => by
    have h : i = j := h
    exact ⟨by omega, fun _ x hx => absurd hx (by simp), fun h2 => by omega⟩
  | x :: l, i, j, ⟨m, hs, hc⟩ => by
    obtain ⟨h1, h2, h3⟩ := chain_beg hc
    rcases hs.2 with ⟨hk, hb1, hb2, hb3⟩ | ⟨hk, hl, hw, hm⟩
    · refine ⟨by omega, fun e y hy => ?_, fun hlt S => ?_⟩
      · rcases List.mem_cons.1 hy with rfl | hy
        · exact ⟨hk, hb2 (by omega)⟩
        · exact h2 (by omega) y hy
      · unfold beginS
        rw [if_neg (show ¬ x < k by omega)]
        by_cases c : i < m
        · have hb : (S ||| el F (x - k).toNat).testBit (w.getD i 0).toNat = true := by rw [Nat.testBit_or, hb3 c, Bool.or_true]
          split
          · exact begin_sub k F V l _ _ hb
          · exact hb
        · obtain rfl : i = m := by omega
          rw [if_pos (hb2 rfl)]
          exact h3 hlt _
    · refine ⟨by omega, fun e => by omega, fun _ S => ?_⟩
      unfold beginS
      rw [if_pos hk, hw]
      exact or_has _ _
theorem beg_closed {k n s : Int} {rs : List S27} (g : GoodG k n s rs) {w F : List Int} (hF : ∀ r ∈ rs, claimF k (voidS k n rs) F r) : ClosedR k w rs (Beg w F (voidS k n rs)) := by
  intro r hr i j hi hc
  obtain ⟨h1, h2, h3⟩ := chain_beg hc
  exact ⟨h1, fun e => void_closed g hr (h2 e), fun hlt => hF r hr _ (h3 hlt 0)⟩
theorem AheadFirst : coppicerkeep_AheadFirst.Pure := by
  intro k n s rs w _ _ _ wr ww
  refine Ev.rounds ?_
  refine Ev.congr (fun q => by rw [coppicerkeep_AheadFirst.f]) ?_
  obtain ⟨t, htb, hti⟩ := grown_spec (k := k) (n := n) (s := s) (rs := rs) w
  by_cases gg : GoodG k n s rs
  · obtain ⟨F, W, hF, hW, cF, bW, cW, hf, hw⟩ := follow_good gg
    refine Ev.bind hf ?_
    refine Ev.bind hw ?_
    by_cases gw : GoodW k w
    · obtain ⟨T, b, FT, hb, hT⟩ := takes_good gg gw
      have hs0 := gg.s0
      have hs1 := gg.s1
      have hk1 := gg.k1
      have hk3 := gg.k3
      have hFl := hF.len
      have hWl := hW.len
      have hvF := el_lt hF (x := s.toNat) (by omega)
      have hvW := el_lt hW (x := s.toNat) (by omega)
      have e1 : rd F s = ((el F s.toNat : Nat) : Int) := hvF.1
      have e2 : rd W s = ((el W s.toNat : Nat) : Int) := hvW.1
      refine Ev.bind hT ?_
      refine Ev.bind htb ?_
      refine Ev.pos (hti.2 ⟨gg, gw⟩) ?_
      refine Ev.pos rfl ?_
      refine Ev.pos rfl ?_
      refine Ev.pos rfl ?_
      refine Ev.pos hFl ?_
      refine Ev.step (fun q => by rw [coppicerkeep_AheadFirst.j0]) ?_
      refine Ev.neg (by simp [hWl]) ?_
      refine Ev.pos hs0 ?_
      refine Ev.pos (show s < (W.length : Int) by omega) ?_
      rw [e2]
      refine Ev.bindc (ref_bit (by omega) (by omega) (by omega)) ?_
      refine Ev.pos bW ?_
      by_cases cb : b = true
      · refine Ev.pos cb ?_
        by_cases cw : (w.length : Int) = 0
        · exact Ev.pos cw (Ev.now _)
        · refine Ev.neg cw ?_
          refine Ev.pos (show s < (F.length : Int) by omega) ?_
          refine Ev.pos (by omega) ?_
          have hx := gw.2 _ (getD_mem (d := (0 : Int)) (i := 0) (xs := w) (by omega))
          have e3 : rd w 0 = w.getD 0 0 := rfl
          rw [e1, e3]
          refine Ev.bindc (ref_bit (by omega) hx.1 (by omega)) ?_
          have := FT.sound _ (beg_closed gg (w := w) cF) s 0 w.length hs0 (hb.1 cb)
          exact Ev.val (by rw [this.2.2 (by omega)])
      · refine Ev.neg cb ?_
        exact Ev.now _
    · obtain ⟨b, e, he, hT⟩ := takes_bad (n := n) (s := s) (rs := rs) (fun h : GoodG k n s rs ∧ GoodW k w => gw h.2)
      refine Ev.bind hT ?_
      refine Ev.bind htb ?_
      refine Ev.neg (fun h => gw (hti.1 h).2) (Ev.val ?_)
      simpa using he
  · obtain ⟨e1, _, hf⟩ := first_bad gg
    obtain ⟨e2, _, hw⟩ := follow_bad gg
    obtain ⟨b, e, he, hT⟩ := takes_bad (n := n) (s := s) (rs := rs) (fun h : GoodG k n s rs ∧ GoodW k w => gg h.1)
    refine Ev.bind hf ?_
    refine Ev.bind hw ?_
    refine Ev.bind hT ?_
    refine Ev.bind htb ?_
    refine Ev.neg (fun h => gg (hti.1 h).1) (Ev.val ?_)
    simpa using he
end Go.Proofs.Ytnkackiocigdoaa.Pure
