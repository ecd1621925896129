/- The law GrammarSets, as plain Lean: a rule more, and no fewer names; what makes nothing makes a word. Conditions: none beyond the kinds of the arguments. -/
import Derived.Test.YtnkackiocigdoaaPAGsets
import Derived.Test.YtnkackiocigdoaaGA9
namespace Go.Proofs.Ytnkackiocigdoaa.Pure
set_option linter.unusedVariables false
set_option linter.unusedSimpArgs false
open Go.RowKit Go.Proofs.Ytnkackiocigdoaa.GA Go.Proofs.Ytnkackiocigdoaa.PAM Go.Proofs.YtnkackiocigdoaaW.PrintWords Go.Proofs.YtnkackiocigdoaaW.PrintLast Go.Proofs.YtnkackiocigdoaaW.PrintMore

theorem makes_bad {k n s : Int} {rs : List S27} {e : Int} (he : Ev (fun q => grammar_Check.f q k n s rs) e) (hi : e = 0 ↔ GoodG k n s rs) (g : ¬ GoodG k n s rs) : Ev (fun q => grammar_Makes.f q k n s rs) (0, e) ∧ Ev (fun q => grammar_Void.f q k n s rs) (0, e) ∧ Ev (fun q => grammar_Comes.f q k n s rs) (0, e) := by
  have c : ¬ e = 0 := fun h => g (hi.1 h)
  refine ⟨Ev.congr (fun q => by rw [grammar_Makes.f]) ?_, Ev.congr (fun q => by rw [grammar_Void.f]) ?_, Ev.congr (fun q => by rw [grammar_Comes.f]) ?_⟩
  · exact Ev.bind he (Ev.neg c (Ev.now _))
  · exact Ev.bind he (Ev.neg c (Ev.now _))
  · exact Ev.bind he (Ev.neg c (Ev.now _))
theorem makes_good {k n s : Int} {rs : List S27} (g : GoodG k n s rs) : Ev (fun q => grammar_Makes.f q k n s rs) ((leastN k true rs n.toNat 0 : Nat), 0) ∧ Ev (fun q => grammar_Void.f q k n s rs) ((leastN k false rs n.toNat 0 : Nat), 0) ∧ Ev (fun q => grammar_Comes.f q k n s rs) ((comeN k rs n.toNat (2 ^ s.toNat) : Nat), 0) := by
  obtain ⟨e, he, hi⟩ := gcheck_spec (k := k) (n := n) (s := s) (rs := rs)
  have c := hi.2 g
  have hs0 := g.s0
  have hs1 := g.s1
  have hn5 := g.n5
  refine ⟨Ev.congr (fun q => by rw [grammar_Makes.f]) ?_, Ev.congr (fun q => by rw [grammar_Void.f]) ?_, Ev.congr (fun q => by rw [grammar_Comes.f]) ?_⟩
  · exact Ev.bind he (Ev.pos c (Ev.bind (least_good g true) (Ev.now _)))
  · exact Ev.bind he (Ev.pos c (Ev.bind (least_good g false) (Ev.now _)))
  · refine Ev.bind he ?_
    refine Ev.pos c ?_
    refine Ev.pos hs0 ?_
    rw [shl_one hs0 (by omega), pow_cast]
    exact comes_l0 g n.toNat 0 _ (by omega) (Nat.pow_lt_pow_right (by omega) (by omega))
theorem ref_bit {S : Nat} (hS : S < 4294967296) {s : Int} (h0 : 0 ≤ s) (h1 : s < 32) : coppicerref_Bit.f (S : Int) s = some (S.testBit s.toNat) := by
  unfold coppicerref_Bit.f
  rw [if_pos h0, if_pos h1, u64_small h0 (by omega), if_pos h0, shl_one h0 h1, pow_cast]
  have hp : 2 ^ s.toNat < 2 ^ 32 := Nat.pow_lt_pow_right (by omega) (by omega)
  rw [and_nat hS (by omega)]
  congr 1
  rw [Bool.eq_iff_iff, bne_iff_ne]
  constructor
  · intro h
    cases hb : S.testBit s.toNat
    · refine absurd ?_ h
      have e : S &&& 2 ^ s.toNat = 0 := by
        apply Nat.eq_of_testBit_eq
        intro i
        rw [Nat.testBit_and, Nat.testBit_two_pow, Nat.zero_testBit]
        by_cases c : s.toNat = i
        · rw [← c, hb, Bool.false_and]
        · rw [decide_eq_false c, Bool.and_false]
      rw [e]
      rfl
    · rfl
  · intro hb h
    have e : (S &&& 2 ^ s.toNat).testBit s.toNat = true := by rw [Nat.testBit_and, hb, Nat.testBit_two_pow]; simp
    rw [show S &&& 2 ^ s.toNat = 0 by omega, Nat.zero_testBit] at e
    exact absurd e (by decide)
theorem GrammarSets : coppicerkeep_GrammarSets.Pure := by
  intro k n s rs a b _ _ _ wr _ wb
  have hrl := wr.2.1
  obtain ⟨e1, he1, hi1⟩ := rcheck_spec (k := k) (n := n) (s := s) (rs := rs)
  obtain ⟨c1, hc1, hci1⟩ := gcheck_spec (k := k) (n := n) (s := s) (rs := rs)
  refine Ev.rounds ?_
  by_cases g : GoodG k n s rs
  · obtain ⟨m1, m2, m3⟩ := makes_good g
    have hp : 2 ^ n.toNat ≤ 128 := pow_le7 (by have := g.n5; omega)
    have hs0 := g.s0
    have hs1 := g.s1
    have hn5 := g.n5
    have b1 : leastN k true rs n.toNat 0 < 2 ^ n.toNat := leastN_lt g.rule _ (Nat.pow_pos (by omega))
    have b2 : leastN k false rs n.toNat 0 < 2 ^ n.toNat := leastN_lt g.rule _ (Nat.pow_pos (by omega))
    have b3 : comeN k rs n.toNat (2 ^ s.toNat) < 2 ^ n.toNat := comeN_lt g.rule _ (Nat.pow_lt_pow_right (by omega) (by omega))
    refine Ev.congr (fun q => by rw [coppicerkeep_GrammarSets.f]) ?_
    refine Ev.bind m1 ?_
    refine Ev.bind m2 ?_
    refine Ev.bind m3 ?_
    refine Ev.bind he1 ?_
    refine Ev.pos (hi1.2 g) ?_
    refine Ev.pos rfl ?_
    refine Ev.pos rfl ?_
    refine Ev.pos rfl ?_
    refine Ev.pos (andNot_zero (by omega) (by omega) (leastN_mono (fun h => absurd h (by decide)) rs n.toNat (Sub.refl 0))) ?_
    refine Ev.bindc (ref_bit (by omega) hs0 (by omega)) ?_
    rw [comeN_sub k rs n.toNat (2 ^ s.toNat) s.toNat (by rw [Nat.testBit_two_pow]; simp)]
    refine Ev.step (fun q => by rw [coppicerkeep_GrammarSets.j1]) ?_
    refine Ev.neg (by decide) ?_
    refine Ev.let_ ?_
    refine Ev.pos (by rw [List.length_nil]; omega) ?_
    refine Ev.let_ ?_
    refine Ev.let_ ?_
    rw [List.nil_append]
    refine Ev.pos (by rw [List.length_singleton]; omega) ?_
    refine Ev.let_ ?_
    obtain ⟨e2, he2, hi2⟩ := rcheck_spec (k := k) (n := n) (s := s) (rs := rs ++ [(⟨a, b⟩ : S27)])
    obtain ⟨c2, hc2, hci2⟩ := gcheck_spec (k := k) (n := n) (s := s) (rs := rs ++ [(⟨a, b⟩ : S27)])
    by_cases g2 : GoodG k n s (rs ++ [(⟨a, b⟩ : S27)])
    · obtain ⟨u1, u2, u3⟩ := makes_good g2
      have d1 : leastN k true (rs ++ [(⟨a, b⟩ : S27)]) n.toNat 0 < 2 ^ n.toNat := leastN_lt g2.rule _ (Nat.pow_pos (by omega))
      have d2 : leastN k false (rs ++ [(⟨a, b⟩ : S27)]) n.toNat 0 < 2 ^ n.toNat := leastN_lt g2.rule _ (Nat.pow_pos (by omega))
      have d3 : comeN k (rs ++ [(⟨a, b⟩ : S27)]) n.toNat (2 ^ s.toNat) < 2 ^ n.toNat := comeN_lt g2.rule _ (Nat.pow_lt_pow_right (by omega) (by omega))
      refine Ev.bind u1 ?_
      refine Ev.bind u2 ?_
      refine Ev.bind u3 ?_
      refine Ev.bind he2 ?_
      refine Ev.pos (hi2.2 g2) ?_
      refine Ev.pos rfl ?_
      refine Ev.pos rfl ?_
      refine Ev.pos rfl ?_
      refine Ev.pos (andNot_zero (by omega) (by omega) (leastN_more k true rs _ n.toNat (Sub.refl 0))) ?_
      refine Ev.pos (andNot_zero (by omega) (by omega) (leastN_more k false rs _ n.toNat (Sub.refl 0))) ?_
      refine Ev.step (fun q => by rw [coppicerkeep_GrammarSets.j3]) (Ev.val ?_)
      rw [andNot_zero (by omega) (by omega) (comeN_more k rs _ n.toNat (Sub.refl _))]
      rfl
    · obtain ⟨u1, u2, u3⟩ := makes_bad hc2 hci2 g2
      have hne : ¬ c2 = 0 := fun h => g2 (hci2.1 h)
      refine Ev.bind u1 ?_
      refine Ev.bind u2 ?_
      refine Ev.bind u3 ?_
      refine Ev.bind he2 ?_
      refine Ev.neg (fun h => g2 (hi2.1 h)) ?_
      refine Ev.neg hne ?_
      refine Ev.neg hne ?_
      refine Ev.step (fun q => by rw [coppicerkeep_GrammarSets.j2]) (Ev.val ?_)
      simpa using hne
  · obtain ⟨u1, u2, u3⟩ := makes_bad hc1 hci1 g
    have hne : ¬ c1 = 0 := fun h => g (hci1.1 h)
    refine Ev.congr (fun q => by rw [coppicerkeep_GrammarSets.f]) ?_
    refine Ev.bind u1 ?_
    refine Ev.bind u2 ?_
    refine Ev.bind u3 ?_
    refine Ev.bind he1 ?_
    refine Ev.neg (fun h => g (hi1.1 h)) ?_
    refine Ev.neg hne ?_
    refine Ev.neg hne ?_
    refine Ev.step (fun q => by rw [coppicerkeep_GrammarSets.j0]) (Ev.val ?_)
    simpa using hne
end Go.Proofs.Ytnkackiocigdoaa.Pure
