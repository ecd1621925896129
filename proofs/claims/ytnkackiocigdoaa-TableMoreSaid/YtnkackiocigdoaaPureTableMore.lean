/- The law TableMore, as plain Lean: a rule more, and no fewer names make the word; and a rule that is the word makes it. Conditions: none beyond the kinds of the arguments. -/
import Derived.Test.YtnkackiocigdoaaPBNames
import Derived.Test.YtnkackiocigdoaaPBInts
import Derived.Test.YtnkackiocigdoaaGB10
namespace Go.Proofs.Ytnkackiocigdoaa.Pure
set_option linter.unusedVariables false
set_option linter.unusedSimpArgs false
open Go.RowKit Go.Proofs.Ytnkackiocigdoaa.GB Go.Proofs.Ytnkackiocigdoaa.PBM Go.Proofs.YtnkackiocigdoaaW.PrintWords Go.Proofs.YtnkackiocigdoaaW.PrintLast Go.Proofs.YtnkackiocigdoaaW.PrintMore

theorem chain_word {k : Int} {w : List Int} (gw : GoodW k w) (R : Int → Nat → Nat → Prop) : ∀ (d i : Nat), i + d = w.length → ChainR k w R (w.drop i) i w.length := by
  intro d
  induction d with
  | zero =>
    intro i hi
    rw [List.drop_eq_nil_of_le (by omega)]
    show i = w.length
    omega
  | succ d ih =>
    intro i hi
    have hlt : i < w.length := by omega
    have hx := gw.2 _ (getD_mem (d := (0 : Int)) hlt)
    rw [drop_cons hlt 0]
    exact ⟨i + 1, ⟨by omega, .inr ⟨hx.2, hlt, rfl, rfl⟩⟩, ih (i + 1) (by omega)⟩
theorem TableMore : coppicerkeep_TableMore.Pure := by
  intro k n s rs a b w _ _ _ wr _ wb _
  have hrl := wr.2.1
  obtain ⟨t, htb, hti⟩ := grown_spec (k := k) (n := n) (s := s) (rs := rs) w
  refine Ev.rounds ?_
  by_cases g : GoodG k n s rs ∧ GoodW k w
  · obtain ⟨gg, gw⟩ := g
    obtain ⟨T, S, F, hS, hSb, hN⟩ := names_good gg gw
    have hp : 2 ^ n.toNat ≤ 128 := pow_le7 (by have := gg.n5; omega)
    have hs0 := gg.s0
    have hs1 := gg.s1
    have hn5 := gg.n5
    obtain ⟨e2, he2, hi2⟩ := rcheck_spec (k := k) (n := n) (s := s) (rs := rs ++ [(⟨a, b⟩ : S27)])
    have hT : Ev (fun q => table_Takes.f q k n s rs w) (S.testBit s.toNat, 0) := by
      refine Ev.congr (fun q => by rw [table_Takes.f]) ?_
      refine Ev.bind hN (Ev.val ?_)
      rw [show mx s 0 = s by unfold mx; split <;> omega, shr_bit (by omega) (by omega) hs0, bit_nat]
      cases S.testBit s.toNat <;> rfl
    have pre : ∀ {rb : Int × Int} {r : Bool}, Ev (fun q => table_Names.f q k n s (rs ++ [(⟨a, b⟩ : S27)]) w) rb → Ev (fun q => coppicerkeep_TableMore.j0 q w (S : Int) rb.1 rb.2 false a b k n s (rs ++ [(⟨a, b⟩ : S27)])) r → Ev (fun q => coppicerkeep_TableMore.f q k n s rs a b w) r := by
      intro rb r h1 h2
      refine Ev.congr (fun q => by rw [coppicerkeep_TableMore.f]) ?_
      refine Ev.bind hN ?_
      refine Ev.bind htb ?_
      refine Ev.pos (hti.2 ⟨gg, gw⟩) ?_
      refine Ev.bind hT ?_
      refine Ev.let_ ?_
      refine Ev.pos (by rw [List.length_nil]; omega) ?_
      refine Ev.let_ ?_
      refine Ev.let_ ?_
      rw [List.nil_append]
      refine Ev.pos (by rw [List.length_singleton]; omega) ?_
      refine Ev.let_ ?_
      refine Ev.bind h1 ?_
      refine Ev.pos rfl ?_
      refine Ev.pos rfl ?_
      refine Ev.bindc (ref_bit (by omega) hs0 (by omega)) ?_
      rw [show (S.testBit s.toNat != S.testBit s.toNat) = false by simp]
      exact h2
    by_cases g2 : GoodG k n s (rs ++ [(⟨a, b⟩ : S27)])
    · obtain ⟨T2, S2, F2, hS2, hSb2, hN2⟩ := names_good g2 gw
      have hsub : Sub S S2 := fun j hj => by
        rw [hSb j, Bool.and_eq_true] at hj
        rw [hSb2 j, hj.1, Bool.true_and]
        exact F.sound (famT T2) (fun r hr i j hi hc => F2.closed r (List.mem_append_left _ hr) i j hi hc) (j : Int) 0 w.length (Int.natCast_nonneg _) hj.2
      refine pre hN2 ?_
      refine Ev.step (fun q => by rw [coppicerkeep_TableMore.j0]) ?_
      refine Ev.neg (by decide) ?_
      refine Ev.bind he2 ?_
      refine Ev.pos (hi2.2 g2) ?_
      refine Ev.pos rfl ?_
      rw [andNot_zero (by omega) (by omega) hsub]
      refine Ev.step (fun q => by rw [coppicerkeep_TableMore.j1]) ?_
      refine Ev.neg (by decide) ?_
      have gr := g2.rule ⟨a, b⟩ (by simp)
      have hsm := g2.small ⟨a, b⟩ (by simp)
      have ga0 : 0 ≤ a := gr.l0
      have ga1 : a < n := gr.l1
      have hbl : b.length ≤ 4 := hsm
      refine Ev.bind (ints_spec b w (by omega)) ?_
      by_cases c : b = w
      · refine Ev.pos (by simpa using c) ?_
        refine Ev.bindc (ref_bit (by omega) ga0 (by omega)) (Ev.val ?_)
        have h3 := F2.closed ⟨a, b⟩ (by simp) 0 w.length (by omega) (by
          have := chain_word gw (famT T2) w.length 0 (by omega)
          rw [List.drop_zero] at this
          show ChainR k w (famT T2) b 0 w.length
          rw [c]
          exact this)
        have h4 : (tb T2 a 0).testBit w.length = true := h3
        rw [hSb2, show ((a.toNat : Nat) : Int) = a by omega, h4, decide_eq_true ga1]
        rfl
      · exact Ev.neg (by simpa using c) (Ev.now _)
    · obtain ⟨e3, he30, he3⟩ := names_bad (k := k) (n := n) (s := s) (w := w) (rs := rs ++ [(⟨a, b⟩ : S27)]) (fun h => g2 h.1)
      refine pre he3 ?_
      refine Ev.step (fun q => by rw [coppicerkeep_TableMore.j0]) ?_
      refine Ev.neg (by decide) ?_
      refine Ev.bind he2 ?_
      refine Ev.neg (fun h => g2 (hi2.1 h)) (Ev.val ?_)
      simpa using he30
  · obtain ⟨e, he0, he⟩ := names_bad g
    refine Ev.congr (fun q => by rw [coppicerkeep_TableMore.f]) ?_
    refine Ev.bind he ?_
    refine Ev.bind htb ?_
    refine Ev.neg (fun h => g (hti.1 h)) (Ev.val ?_)
    simpa using he0
end Go.Proofs.Ytnkackiocigdoaa.Pure
