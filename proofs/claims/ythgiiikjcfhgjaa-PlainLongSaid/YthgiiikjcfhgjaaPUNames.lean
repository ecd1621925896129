/- Words on tables in plain Lean: what table.Names answers. -/
import Derived.Test.YthgiiikjcfhgjaaPUFilled
import Derived.Test.YthgiiikjcfhgjaaPUWords
import Derived.Test.YthgiiikjcfhgjaaGU6
namespace Go.Proofs.Ythgiiikjcfhgjaa.PUM
set_option linter.unusedVariables false
set_option linter.unusedSimpArgs false
open Go.RowKit Go.Proofs.Ythgiiikjcfhgjaa.GU Go.Proofs.YthgiiikjcfhgjaaW.PrintWords Go.Proofs.YthgiiikjcfhgjaaW.PrintLast Go.Proofs.YthgiiikjcfhgjaaW.PrintMore

theorem wrong_spec {k n s : Int} {rs : List S126} (w : List Int) : ∃ e, Ev (fun q => table_wrong.f q k n s rs w) e ∧ (e = 0 ↔ GoodG k n s rs ∧ GoodW k w) := by
  obtain ⟨e, he, hi⟩ := gcheck_spec (k := k) (n := n) (s := s) (rs := rs)
  obtain ⟨e2, he2, hi2⟩ := words_spec k w
  by_cases c : e = 0
  · refine ⟨e2, Ev.congr (fun q => by rw [table_wrong.f]) (Ev.bind he (Ev.pos c (Ev.bindc he2 (Ev.now _)))), ?_⟩
    rw [hi2]
    exact ⟨fun h => ⟨hi.1 c, h⟩, fun h => h.2⟩
  · exact ⟨e, Ev.congr (fun q => by rw [table_wrong.f]) (Ev.bind he (Ev.neg c (Ev.now _))), fun h => absurd h c, fun h => hi.2 h.1⟩
theorem names_l0 {n : Int} {w : List Int} {T : List (List Int)} (hn5 : n ≤ 5) (hw : w.length ≤ 12) (h : Tab n (w.length + 1) T) : ∀ (d i : Nat) (S : Nat), i + d = T.length → S < 2 ^ i → (∀ j, S.testBit j = (decide (j < i) && (tb T j 0).testBit w.length)) →
    ∃ S' : Nat, S' < 2 ^ T.length ∧ (∀ j, S'.testBit j = (decide (j < T.length) && (tb T j 0).testBit w.length)) ∧ Ev (fun q => table_Names.l0 q w (S : Int) T (T.length : Int) (i : Int)) ((S' : Int), 0) := by
  have hl := h.len
  have hp := pow_le13 (m := w.length + 1) (by omega)
  intro d
  induction d with
  | zero =>
    intro i S hi hS hb
    obtain rfl : i = T.length := by omega
    exact ⟨S, hS, hb, Ev.step (fun q => by rw [table_Names.l0]) (Ev.neg (by omega) (Ev.now _))⟩
  | succ d ih =>
    intro i S hi hS hb
    have hlt : i < T.length := by omega
    have ht := tb_lt h (x := (i : Int)) (by omega) (by omega) (i := 0) (by omega)
    rw [Int.toNat_natCast] at ht
    have hp2 : 2 ^ i ≤ 128 := pow_le7 (by omega)
    have hp1 : 2 ^ i < 2 ^ (i + 1) := Nat.pow_lt_pow_right (by omega) (by omega)
    have pre : ∀ {r : Int × Int}, Ev (fun q => table_Names.l0 q w (Go.bits .or .u32 (S : Int) (shl .u32 (if (tb T i 0).testBit w.length = true then 1 else 0) (i : Int))) T (T.length : Int) ((i + 1 : Nat) : Int)) r → Ev (fun q => table_Names.l0 q w (S : Int) T (T.length : Int) (i : Int)) r := by
      intro r hE
      refine Ev.step (fun q => by rw [table_Names.l0]) ?_
      refine Ev.pos (by omega) ?_
      refine Ev.pos (by omega) ?_
      refine Ev.pos (by omega) ?_
      rw [rdL_nat]
      refine Ev.pos (by omega) ?_
      rw [show rd (T.getD i []) 0 = ((tb T i 0 : Nat) : Int) from ht.2.1, shr_bit (by omega) (by omega) (by omega), bit_nat, Int.toNat_natCast, w64 (n := (i : Int) + 1) (by omega) (by omega)]
      exact hE
    by_cases c : (tb T i 0).testBit w.length = true
    · obtain ⟨S', e1, e2, e3⟩ := ih (i + 1) (S ||| 2 ^ i) (by omega) (Nat.or_lt_two_pow (by omega) hp1) (fun j => by
        rw [Nat.testBit_or, hb j, Nat.testBit_two_pow]
        by_cases e : j = i
        · subst e
          rw [c]; simp
        · rw [show decide (j < i + 1) = decide (j < i) by rw [decide_eq_decide]; omega, show decide (i = j) = false from decide_eq_false (fun h => e h.symm), Bool.or_false])
      refine ⟨S', e1, e2, pre ?_⟩
      rw [if_pos c, or_bit (by omega) (by omega) (by omega), Int.toNat_natCast]
      exact e3
    · obtain ⟨S', e1, e2, e3⟩ := ih (i + 1) S (by omega) (by omega) (fun j => by
        rw [hb j]
        by_cases e : j = i
        · subst e
          rw [Bool.eq_false_iff.2 c]; simp
        · rw [show decide (j < i + 1) = decide (j < i) by rw [decide_eq_decide]; omega])
      refine ⟨S', e1, e2, pre ?_⟩
      rw [if_neg c, or_none (by omega)]
      exact e3
/-- The names that make the word. -/
theorem names_good {k n s : Int} {w : List Int} {rs : List S126} (g : GoodG k n s rs) (gw : GoodW k w) : ∃ (T : List (List Int)) (S : Nat), Filled k n w rs T ∧ S < 2 ^ n.toNat ∧ (∀ j : Nat, S.testBit j = (decide ((j : Int) < n) && (tb T j 0).testBit w.length)) ∧ Ev (fun q => table_Names.f q k n s rs w) ((S : Int), 0) := by
  obtain ⟨e, he, hi⟩ := wrong_spec (k := k) (n := n) (s := s) (rs := rs) w
  obtain ⟨T, F, hT⟩ := fill_good g gw.1
  obtain ⟨S, h1, h2, h3⟩ := names_l0 g.n5 gw.1 F.tab T.length 0 0 (by omega) (by simp) (fun j => by simp)
  have hl := F.tab.len
  refine ⟨T, S, F, by rw [show n.toNat = T.length by omega]; exact h1, fun j => ?_, Ev.congr (fun q => by rw [table_Names.f]) ?_⟩
  · rw [h2 j, show decide ((j : Int) < n) = decide (j < T.length) by rw [decide_eq_decide]; omega]
  · refine Ev.bind he ?_
    refine Ev.pos (hi.2 ⟨g, gw⟩) ?_
    refine Ev.bind hT ?_
    exact h3
theorem names_bad {k n s : Int} {w : List Int} {rs : List S126} (h : ¬ (GoodG k n s rs ∧ GoodW k w)) : ∃ e, e ≠ 0 ∧ Ev (fun q => table_Names.f q k n s rs w) (0, e) := by
  obtain ⟨e, he, hi⟩ := wrong_spec (k := k) (n := n) (s := s) (rs := rs) w
  have c : ¬ e = 0 := fun h2 => h (hi.1 h2)
  exact ⟨e, c, Ev.congr (fun q => by rw [table_Names.f]) (Ev.bind he (Ev.neg c (Ev.now _)))⟩
end Go.Proofs.Ythgiiikjcfhgjaa.PUM
