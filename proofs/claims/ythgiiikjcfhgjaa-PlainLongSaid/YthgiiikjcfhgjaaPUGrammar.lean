/- Words on grammars in plain Lean: what grammar.Check, the reference's check, grammar.Least and grammar.Comes answer. Conditions: those of the kinds; for the last two: the grammar is good. -/
import Derived.Test.YthgiiikjcfhgjaaPUBits
import Derived.Test.YthgiiikjcfhgjaaGU2
import Derived.Test.YthgiiikjcfhgjaaGU8
namespace Go.Proofs.Ythgiiikjcfhgjaa.PUM
set_option linter.unusedVariables false
set_option linter.unusedSimpArgs false
open Go.RowKit Go.Proofs.Ythgiiikjcfhgjaa.GU Go.Proofs.YthgiiikjcfhgjaaW.PrintWords Go.Proofs.YthgiiikjcfhgjaaW.PrintLast Go.Proofs.YthgiiikjcfhgjaaW.PrintMore

theorem rdR_nat (xs : List S126) (i : Nat) : rd_T126 xs (i : Int) = xs.getD i z126 := by simp [rd_T126]
/-- A rule as the document has it. -/
structure GoodR (k n : Int) (r : S126) : Prop where
  l0 : 0 ≤ r.f0
  l1 : r.f0 < n
  sg : ∀ x ∈ r.f1, 0 ≤ x ∧ x < k + n
/-- A grammar as the document has it. -/
structure GoodG (k n s : Int) (rs : List S126) : Prop where
  k1 : 1 ≤ k
  k3 : k ≤ 3
  n1 : 1 ≤ n
  n5 : n ≤ 5
  len : rs.length ≤ 10
  small : ∀ r ∈ rs, r.f1.length ≤ 4
  s0 : 0 ≤ s
  s1 : s < n
  rule : ∀ r ∈ rs, GoodR k n r
def okX (m x : Int) : Bool := decide (0 ≤ x) && decide (x < m)
theorem signs_good {k n s : Int} {rs : List S126} (hk : k ≤ 3) (hn : n ≤ 5) (hk1 : 1 ≤ k) (hn1 : 1 ≤ n) (l : List Int) : ∃ b, grammar_signs.f k n s rs l = some b ∧ (b = true ↔ ∀ x ∈ l, 0 ≤ x ∧ x < k + n) := by
  refine ⟨_, rfl, ?_⟩
  rw [Bool.not_eq_true', Bool.eq_false_iff]
  have e : ∀ x, grammar_signs_any.p k n x = true ↔ ¬ (0 ≤ x ∧ x < k + n) := fun x => by
    unfold grammar_signs_any.p
    rw [w64 (by omega) (by omega), Bool.or_eq_true, decide_eq_true_iff, decide_eq_true_iff]
    omega
  rw [Ne, List.any_eq_true]
  constructor
  · intro h x hx
    have h2 : ¬ grammar_signs_any.p k n x = true := fun h3 => h ⟨x, hx, h3⟩
    rw [e] at h2
    omega
  · rintro h ⟨x, hx, h2⟩
    exact (e x).1 h2 (h x hx)
theorem gcheck_l0 {k n s : Int} {rs0 : List S126} (hk : k ≤ 3) (hn : n ≤ 5) (hk1 : 1 ≤ k) (hn1 : 1 ≤ n) (rs : List S126) (hl : rs.length ≤ 10) : ∀ (d i : Nat), i + d = rs.length →
    ∃ e, Ev (fun q => grammar_Check.l0 q rs (rs.length : Int) (i : Int) k n s rs0) e ∧ (e = 0 ↔ ∀ r ∈ rs.drop i, GoodR k n r) := by
  intro d
  induction d with
  | zero =>
    intro i hi
    rw [List.drop_eq_nil_of_le (by omega)]
    exact ⟨0, Ev.step (fun q => by rw [grammar_Check.l0]) (Ev.neg (by omega) (Ev.now _)), fun _ r hr => absurd hr (by simp), fun _ => rfl⟩
  | succ d ih =>
    intro i hi
    have hlt : i < rs.length := by omega
    obtain ⟨e, he, hie⟩ := ih (i + 1) (by omega)
    rw [drop_cons hlt z126]
    obtain ⟨b, hb, hbi⟩ := signs_good (s := s) (rs := rs0) hk hn hk1 hn1 (rs.getD i z126).f1
    have pre : ∀ {r : Int}, Ev (fun q => (if ((rs.getD i z126).f0) < 0 then (some 2) else (if ((rs.getD i z126).f0) ≥ n then (some 2) else (if b = true then (grammar_Check.l0 q rs (rs.length : Int) ((i + 1 : Nat) : Int) k n s rs0) else (some 2))))) r → Ev (fun q => grammar_Check.l0 q rs (rs.length : Int) (i : Int) k n s rs0) r := by
      intro r h
      refine Ev.step (fun q => by rw [grammar_Check.l0]) ?_
      refine Ev.pos (by omega) ?_
      refine Ev.pos (by omega) ?_
      refine Ev.pos (by omega) ?_
      rw [rdR_nat, w64 (n := (i : Int) + 1) (by omega) (by omega), hb]
      exact h
    generalize rs.getD i z126 = a at pre hbi
    have two : (¬ GoodR k n a) → ((2 : Int) = 0 ↔ ∀ r ∈ a :: rs.drop (i + 1), GoodR k n r) := fun hb => ⟨fun h => absurd h (by decide), fun h => absurd (h a List.mem_cons_self) hb⟩
    by_cases c1 : a.f0 < 0
    · exact ⟨2, pre (Ev.pos c1 (Ev.now _)), two fun h => by have := h.l0; omega⟩
    by_cases c2 : a.f0 ≥ n
    · exact ⟨2, pre (Ev.neg c1 (Ev.pos c2 (Ev.now _))), two fun h => by have := h.l1; omega⟩
    by_cases c3 : b = true
    · refine ⟨e, pre (Ev.neg c1 (Ev.neg c2 (Ev.pos c3 he))), ?_⟩
      have ga : GoodR k n a := ⟨by omega, by omega, hbi.1 c3⟩
      rw [hie]
      exact ⟨fun h x hx => by rcases List.mem_cons.1 hx with rfl | hx; exact ga; exact h x hx, fun h x hx => h x (List.mem_cons_of_mem _ hx)⟩
    · exact ⟨2, pre (Ev.neg c1 (Ev.neg c2 (Ev.neg c3 (Ev.now _)))), two fun h => c3 (hbi.2 h.sg)⟩
theorem gcheck_spec {k n s : Int} {rs : List S126} : ∃ e, Ev (fun q => grammar_Check.f q k n s rs) e ∧ (e = 0 ↔ GoodG k n s rs) := by
  have one : Ev (fun q => grammar_Check.j0 q true k n s rs) 1 := Ev.step (fun q => by rw [grammar_Check.j0]) (Ev.pos rfl (Ev.now _))
  by_cases a1 : k < 1
  · exact ⟨1, Ev.congr (fun q => by rw [grammar_Check.f]) (Ev.pos a1 one), fun h => absurd h (by decide), fun h => by have := h.k1; omega⟩
  by_cases a2 : k > 3
  · exact ⟨1, Ev.congr (fun q => by rw [grammar_Check.f]) (Ev.neg a1 (Ev.pos a2 one)), fun h => absurd h (by decide), fun h => by have := h.k3; omega⟩
  by_cases a3 : n < 1
  · exact ⟨1, Ev.congr (fun q => by rw [grammar_Check.f]) (Ev.neg a1 (Ev.neg a2 (Ev.pos a3 one))), fun h => absurd h (by decide), fun h => by have := h.n1; omega⟩
  by_cases a4 : n > 5
  · exact ⟨1, Ev.congr (fun q => by rw [grammar_Check.f]) (Ev.neg a1 (Ev.neg a2 (Ev.neg a3 (Ev.pos a4 one)))), fun h => absurd h (by decide), fun h => by have := h.n5; omega⟩
  by_cases a5 : (rs.length : Int) > 10
  · exact ⟨1, Ev.congr (fun q => by rw [grammar_Check.f]) (Ev.neg a1 (Ev.neg a2 (Ev.neg a3 (Ev.neg a4 (Ev.pos a5 one))))), fun h => absurd h (by decide), fun h => by have := h.len; omega⟩
  have pre : ∀ {r : Int}, Ev (fun q => grammar_Check.j0 q (rs.any grammar_Check_any.p) k n s rs) r → Ev (fun q => grammar_Check.f q k n s rs) r := by
    intro r h
    refine Ev.congr (fun q => by rw [grammar_Check.f]) ?_
    refine Ev.neg a1 ?_
    refine Ev.neg a2 ?_
    refine Ev.neg a3 ?_
    refine Ev.neg a4 ?_
    refine Ev.neg a5 ?_
    exact Ev.bindc rfl h
  by_cases a6 : (rs.any grammar_Check_any.p) = true
  · refine ⟨1, pre (by rw [a6]; exact one), fun h => absurd h (by decide), fun h => ?_⟩
    rw [List.any_eq_true] at a6
    obtain ⟨r, hr, h2⟩ := a6
    have := h.small r hr
    unfold grammar_Check_any.p at h2
    rw [decide_eq_true_iff] at h2
    omega
  · have hsm : ∀ r ∈ rs, r.f1.length ≤ 4 := fun r hr => by
      have h2 : ¬ grammar_Check_any.p r = true := fun h => a6 (List.any_eq_true.2 ⟨r, hr, h⟩)
      unfold grammar_Check_any.p at h2
      rw [decide_eq_true_iff] at h2
      omega
    have a6' := Bool.eq_false_iff.2 a6
    have pre2 : ∀ {t : Bool} {r : Int}, t = decide (s < 0 ∨ s ≥ n) → Ev (fun q => grammar_Check.j1 q t k n s rs) r → Ev (fun q => grammar_Check.j0 q (rs.any grammar_Check_any.p) k n s rs) r := by
      intro t r ht h
      refine Ev.step (fun q => by rw [grammar_Check.j0]) ?_
      refine Ev.neg (by rw [a6']; decide) ?_
      by_cases c : s < 0
      · refine Ev.pos c ?_
        rw [ht, decide_eq_true (.inl c)] at h
        exact h
      · refine Ev.neg c ?_
        rw [show decide (s ≥ n) = t by rw [ht, decide_eq_decide]; omega]
        exact h
    by_cases a7 : s < 0 ∨ s ≥ n
    · refine ⟨2, pre (pre2 (t := true) (decide_eq_true a7).symm (Ev.step (fun q => by rw [grammar_Check.j1]) (Ev.pos rfl (Ev.now _)))), fun h => absurd h (by decide), fun h => by have := h.s0; have := h.s1; omega⟩
    · obtain ⟨e, he, hie⟩ := gcheck_l0 (k := k) (n := n) (s := s) (rs0 := rs) (by omega) (by omega) (by omega) (by omega) rs (by omega) rs.length 0 (by omega)
      refine ⟨e, pre (pre2 (t := false) (decide_eq_false a7).symm ?_), ?_⟩
      · refine Ev.step (fun q => by rw [grammar_Check.j1]) ?_
        refine Ev.neg (by decide) ?_
        exact he
      · rw [hie, List.drop_zero]
        exact ⟨fun h => ⟨by omega, by omega, by omega, by omega, by omega, hsm, by omega, by omega, h⟩, fun h => h.rule⟩
theorem rsigns_loop {k n s : Int} {rs : List S126} (hk : k ≤ 3) (hn : n ≤ 5) (hk1 : 1 ≤ k) (hn1 : 1 ≤ n) (l : List Int) (hl : l.length ≤ 1000) : ∀ (d i : Nat), i + d = l.length →
    ∃ b, Ev (fun q => coppicerref_Signs.l0 q l (l.length : Int) (i : Int) k n s rs) b ∧ (b = true ↔ ∀ x ∈ l.drop i, 0 ≤ x ∧ x < k + n) := by
  intro d
  induction d with
  | zero =>
    intro i hi
    rw [List.drop_eq_nil_of_le (by omega)]
    exact ⟨true, Ev.step (fun q => by rw [coppicerref_Signs.l0]) (Ev.neg (by omega) (Ev.now _)), fun _ r hr => absurd hr (by simp), fun _ => rfl⟩
  | succ d ih =>
    intro i hi
    have hlt : i < l.length := by omega
    obtain ⟨b, hb, hbi⟩ := ih (i + 1) (by omega)
    rw [drop_cons hlt 0]
    have pre : ∀ {r : Bool}, Ev (fun q => (if (l.getD i 0) < 0 then (some false) else (if (l.getD i 0) ≥ k + n then (some false) else (coppicerref_Signs.l0 q l (l.length : Int) ((i + 1 : Nat) : Int) k n s rs)))) r → Ev (fun q => coppicerref_Signs.l0 q l (l.length : Int) (i : Int) k n s rs) r := by
      intro r h
      refine Ev.step (fun q => by rw [coppicerref_Signs.l0]) ?_
      refine Ev.pos (by omega) ?_
      refine Ev.pos (by omega) ?_
      refine Ev.pos (by omega) ?_
      rw [rd_nat, w64 (n := (i : Int) + 1) (by omega) (by omega), w64 (n := k + n) (by omega) (by omega)]
      exact h
    generalize l.getD i 0 = a at pre
    by_cases c1 : a < 0
    · exact ⟨false, pre (Ev.pos c1 (Ev.now _)), fun h => absurd h (by decide), fun h => by have := h a List.mem_cons_self; omega⟩
    by_cases c2 : a ≥ k + n
    · exact ⟨false, pre (Ev.neg c1 (Ev.pos c2 (Ev.now _))), fun h => absurd h (by decide), fun h => by have := h a List.mem_cons_self; omega⟩
    refine ⟨b, pre (Ev.neg c1 (Ev.neg c2 hb)), ?_⟩
    rw [hbi]
    exact ⟨fun h x hx => by rcases List.mem_cons.1 hx with rfl | hx; exact ⟨by omega, by omega⟩; exact h x hx, fun h x hx => h x (List.mem_cons_of_mem _ hx)⟩
theorem rcheck_l1 {k n s : Int} {rs0 : List S126} (hk : k ≤ 3) (hn : n ≤ 5) (hk1 : 1 ≤ k) (hn1 : 1 ≤ n) (rs : List S126) (hl : rs.length ≤ 10) (hsm : ∀ r ∈ rs, r.f1.length ≤ 4) : ∀ (d i : Nat), i + d = rs.length →
    ∃ e, Ev (fun q => coppicerref_GrammarCheck.l1 q rs (rs.length : Int) (i : Int) k n s rs0) e ∧ (e = 0 ↔ ∀ r ∈ rs.drop i, GoodR k n r) := by
  intro d
  induction d with
  | zero =>
    intro i hi
    rw [List.drop_eq_nil_of_le (by omega)]
    exact ⟨0, Ev.step (fun q => by rw [coppicerref_GrammarCheck.l1]) (Ev.neg (by omega) (Ev.now _)), fun _ r hr => absurd hr (by simp), fun _ => rfl⟩
  | succ d ih =>
    intro i hi
    have hlt : i < rs.length := by omega
    obtain ⟨e, he, hie⟩ := ih (i + 1) (by omega)
    have hs4 := hsm _ (getD_mem (d := z126) hlt)
    rw [drop_cons hlt z126]
    obtain ⟨b, hb, hbi⟩ := rsigns_loop (s := s) (rs := rs0) hk hn hk1 hn1 (rs.getD i z126).f1 (by omega) (rs.getD i z126).f1.length 0 (by omega)
    rw [List.drop_zero] at hbi
    have pre : ∀ {r : Int}, Ev (fun q => (if ((rs.getD i z126).f0) < 0 then (some 2) else (if ((rs.getD i z126).f0) ≥ n then (some 2) else (if b = true then (coppicerref_GrammarCheck.l1 q rs (rs.length : Int) ((i + 1 : Nat) : Int) k n s rs0) else (some 2))))) r → Ev (fun q => coppicerref_GrammarCheck.l1 q rs (rs.length : Int) (i : Int) k n s rs0) r := by
      intro r h
      refine Ev.step (fun q => by rw [coppicerref_GrammarCheck.l1]) ?_
      refine Ev.pos (by omega) ?_
      refine Ev.pos (by omega) ?_
      refine Ev.pos (by omega) ?_
      rw [rdR_nat, w64 (n := (i : Int) + 1) (by omega) (by omega)]
      by_cases c1 : (rs.getD i z126).f0 < 0
      · exact Ev.pos c1 (Ev.congr (fun q => (if_pos c1).symm) h)
      refine Ev.neg c1 ?_
      replace h := Ev.congr (fun q => (if_neg c1).symm) h
      by_cases c2 : (rs.getD i z126).f0 ≥ n
      · exact Ev.pos c2 (Ev.congr (fun q => (if_pos c2).symm) h)
      refine Ev.neg c2 ?_
      replace h := Ev.congr (fun q => (if_neg c2).symm) h
      refine Ev.bind (a := b) ?_ h
      refine Ev.congr (fun q => by rw [coppicerref_Signs.f]) ?_
      exact hb
    generalize rs.getD i z126 = a at pre hbi
    have two : (¬ GoodR k n a) → ((2 : Int) = 0 ↔ ∀ r ∈ a :: rs.drop (i + 1), GoodR k n r) := fun hb => ⟨fun h => absurd h (by decide), fun h => absurd (h a List.mem_cons_self) hb⟩
    by_cases c1 : a.f0 < 0
    · exact ⟨2, pre (Ev.pos c1 (Ev.now _)), two fun h => by have := h.l0; omega⟩
    by_cases c2 : a.f0 ≥ n
    · exact ⟨2, pre (Ev.neg c1 (Ev.pos c2 (Ev.now _))), two fun h => by have := h.l1; omega⟩
    by_cases c3 : b = true
    · refine ⟨e, pre (Ev.neg c1 (Ev.neg c2 (Ev.pos c3 he))), ?_⟩
      have ga : GoodR k n a := ⟨by omega, by omega, hbi.1 c3⟩
      rw [hie]
      exact ⟨fun h x hx => by rcases List.mem_cons.1 hx with rfl | hx; exact ga; exact h x hx, fun h x hx => h x (List.mem_cons_of_mem _ hx)⟩
    · exact ⟨2, pre (Ev.neg c1 (Ev.neg c2 (Ev.neg c3 (Ev.now _)))), two fun h => c3 (hbi.2 h.sg)⟩
theorem rcheck_l0 {k n s : Int} {rs0 : List S126} (rs : List S126) (hl : rs.length ≤ 10) {r : Int} : ∀ (d i : Nat), i + d = rs.length →
    ((∀ x ∈ rs.drop i, x.f1.length ≤ 4) → Ev (fun q => if s < 0 then (coppicerref_GrammarCheck.j2 q true k n s rs0) else (coppicerref_GrammarCheck.j2 q (decide (s ≥ n)) k n s rs0)) r) → (¬ (∀ x ∈ rs.drop i, x.f1.length ≤ 4) → r = 1) →
    Ev (fun q => coppicerref_GrammarCheck.l0 q rs (rs.length : Int) (i : Int) k n s rs0) r := by
  intro d
  induction d with
  | zero =>
    intro i hi hy hn
    refine Ev.step (fun q => by rw [coppicerref_GrammarCheck.l0]) ?_
    refine Ev.neg (by omega) ?_
    rw [List.drop_eq_nil_of_le (by omega)] at hy
    exact hy (fun x hx => absurd hx (by simp))
  | succ d ih =>
    intro i hi hy hn
    have hlt : i < rs.length := by omega
    rw [drop_cons hlt z126] at hy hn
    refine Ev.step (fun q => by rw [coppicerref_GrammarCheck.l0]) ?_
    refine Ev.pos (by omega) ?_
    refine Ev.pos (by omega) ?_
    refine Ev.pos (by omega) ?_
    rw [rdR_nat, w64 (n := (i : Int) + 1) (by omega) (by omega)]
    by_cases c : ((rs.getD i z126).f1.length : Int) > 4
    · refine Ev.pos c (Ev.val ?_)
      rw [hn (fun h => by have := h _ List.mem_cons_self; omega)]
    · refine Ev.neg c (ih (i + 1) (by omega) (fun h => hy (fun x hx => ?_)) (fun h => hn (fun h2 => h (fun x hx => h2 x (List.mem_cons_of_mem _ hx)))))
      rcases List.mem_cons.1 hx with rfl | hx
      · omega
      · exact h x hx
theorem rcheck_spec {k n s : Int} {rs : List S126} : ∃ e, Ev (fun q => coppicerref_GrammarCheck.f q k n s rs) e ∧ (e = 0 ↔ GoodG k n s rs) := by
  have one : Ev (fun q => coppicerref_GrammarCheck.j0 q true k n s rs) 1 := Ev.step (fun q => by rw [coppicerref_GrammarCheck.j0]) (Ev.pos rfl (Ev.now _))
  by_cases a1 : k < 1
  · exact ⟨1, Ev.congr (fun q => by rw [coppicerref_GrammarCheck.f]) (Ev.pos a1 one), fun h => absurd h (by decide), fun h => by have := h.k1; omega⟩
  by_cases a2 : k > 3
  · exact ⟨1, Ev.congr (fun q => by rw [coppicerref_GrammarCheck.f]) (Ev.neg a1 (Ev.pos a2 one)), fun h => absurd h (by decide), fun h => by have := h.k3; omega⟩
  by_cases a3 : n < 1
  · exact ⟨1, Ev.congr (fun q => by rw [coppicerref_GrammarCheck.f]) (Ev.neg a1 (Ev.neg a2 (Ev.pos a3 one))), fun h => absurd h (by decide), fun h => by have := h.n1; omega⟩
  by_cases a4 : n > 5
  · exact ⟨1, Ev.congr (fun q => by rw [coppicerref_GrammarCheck.f]) (Ev.neg a1 (Ev.neg a2 (Ev.neg a3 (Ev.pos a4 one)))), fun h => absurd h (by decide), fun h => by have := h.n5; omega⟩
  have pre : ∀ {r : Int}, Ev (fun q => coppicerref_GrammarCheck.j0 q (decide ((rs.length : Int) > 10)) k n s rs) r → Ev (fun q => coppicerref_GrammarCheck.f q k n s rs) r := by
    intro r h
    refine Ev.congr (fun q => by rw [coppicerref_GrammarCheck.f]) ?_
    refine Ev.neg a1 ?_
    refine Ev.neg a2 ?_
    refine Ev.neg a3 ?_
    refine Ev.neg a4 ?_
    exact h
  by_cases a5 : (rs.length : Int) > 10
  · exact ⟨1, pre (by rw [decide_eq_true a5]; exact one), fun h => absurd h (by decide), fun h => by have := h.len; omega⟩
  have pre1 : ∀ {r : Int}, Ev (fun q => coppicerref_GrammarCheck.l0 q rs (rs.length : Int) ((0 : Nat) : Int) k n s rs) r → Ev (fun q => coppicerref_GrammarCheck.f q k n s rs) r := by
    intro r h
    refine pre ?_
    rw [decide_eq_false a5]
    refine Ev.step (fun q => by rw [coppicerref_GrammarCheck.j0]) ?_
    refine Ev.neg (by decide) ?_
    exact h
  by_cases a6 : ∀ r ∈ rs, r.f1.length ≤ 4
  · have pre2 : ∀ {t : Bool} {r : Int}, t = decide (s < 0 ∨ s ≥ n) → Ev (fun q => coppicerref_GrammarCheck.j2 q t k n s rs) r → Ev (fun q => coppicerref_GrammarCheck.f q k n s rs) r := by
      intro t r ht h
      refine pre1 (rcheck_l0 rs (by omega) rs.length 0 (by omega) (fun _ => ?_) (fun h2 => absurd (by rw [List.drop_zero]; exact a6) h2))
      by_cases c : s < 0
      · refine Ev.pos c ?_
        rw [ht, decide_eq_true (.inl c)] at h
        exact h
      · refine Ev.neg c ?_
        rw [show decide (s ≥ n) = t by rw [ht, decide_eq_decide]; omega]
        exact h
    by_cases a7 : s < 0 ∨ s ≥ n
    · refine ⟨2, pre2 (t := true) (decide_eq_true a7).symm (Ev.step (fun q => by rw [coppicerref_GrammarCheck.j2]) (Ev.pos rfl (Ev.now _))), fun h => absurd h (by decide), fun h => by have := h.s0; have := h.s1; omega⟩
    · obtain ⟨e, he, hie⟩ := rcheck_l1 (k := k) (n := n) (s := s) (rs0 := rs) (by omega) (by omega) (by omega) (by omega) rs (by omega) a6 rs.length 0 (by omega)
      refine ⟨e, pre2 (t := false) (decide_eq_false a7).symm ?_, ?_⟩
      · refine Ev.step (fun q => by rw [coppicerref_GrammarCheck.j2]) ?_
        refine Ev.neg (by decide) ?_
        exact he
      · rw [hie, List.drop_zero]
        exact ⟨fun h => ⟨by omega, by omega, by omega, by omega, by omega, a6, by omega, by omega, h⟩, fun h => h.rule⟩
  · refine ⟨1, pre1 (rcheck_l0 rs (by omega) rs.length 0 (by omega) (fun h => absurd (by rw [List.drop_zero] at h; exact h) a6) (fun _ => rfl)), fun h => absurd h (by decide), fun h => absurd h.small a6⟩
end Go.Proofs.Ythgiiikjcfhgjaa.PUM
