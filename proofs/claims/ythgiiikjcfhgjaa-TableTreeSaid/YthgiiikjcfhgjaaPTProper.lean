/- Words on package table in plain Lean: what Proper answers, the program's and the reference's. Conditions: the grammar is good. -/
import Derived.Test.YthgiiikjcfhgjaaPTCount
import Derived.Test.YthgiiikjcfhgjaaGT3
import Derived.Test.YthgiiikjcfhgjaaGT11
namespace Go.Proofs.Ythgiiikjcfhgjaa.PTM
set_option linter.unusedVariables false
set_option linter.unusedSimpArgs false
open Go.RowKit Go.Proofs.Ythgiiikjcfhgjaa.GT Go.Proofs.YthgiiikjcfhgjaaW.PrintWords Go.Proofs.YthgiiikjcfhgjaaW.PrintLast Go.Proofs.YthgiiikjcfhgjaaW.PrintMore

theorem proper_cons {k : Int} {r : S126} {rs : List S126} : ProperG k (r :: rs) ↔ (r.f1 ≠ [] ∧ ∀ x, r.f1 = [x] → x < k) ∧ ProperG k rs := by
  unfold ProperG
  constructor
  · exact fun h => ⟨h r List.mem_cons_self, fun x hx => h x (List.mem_cons_of_mem _ hx)⟩
  · rintro ⟨h1, h2⟩ x hx
    rcases List.mem_cons.1 hx with e | e
    · rw [e]; exact h1
    · exact h2 x e
theorem proper_nil (k : Int) : ProperG k [] := fun r hr => by simp at hr
theorem one_sign {l : List Int} (h : (l.length : Int) = 1) : l = [l.getD 0 0] := by
  obtain ⟨y, hy⟩ := List.length_eq_one_iff.1 (show l.length = 1 by omega)
  rw [hy]
  rfl
theorem proper_l0 (k n s : Int) (rs0 rs : List S126) (hl : rs.length ≤ 1000) : ∀ (d i : Nat), i + d = rs.length →
    ∃ b : Bool, Ev (fun q => table_Proper.l0 q rs (rs.length : Int) (i : Int) k n s rs0) b ∧ (b = true ↔ ProperG k (rs.drop i)) := by
  intro d
  induction d with
  | zero =>
    intro i hi
    refine ⟨true, Ev.step (fun q => by rw [table_Proper.l0]) (Ev.neg (by omega) (Ev.now _)), ?_⟩
    rw [List.drop_of_length_le (by omega)]
    simp [proper_nil]
  | succ d ih =>
    intro i hi
    have hlt : i < rs.length := by omega
    obtain ⟨b, hb, hbi⟩ := ih (i + 1) (by omega)
    have pre : ∀ {r : Bool}, Ev (fun q => if ((rs.getD i z126).f1.length : Int) = 0 then some false else if ((rs.getD i z126).f1.length : Int) = 1 then (if 0 < ((rs.getD i z126).f1.length : Int) then (if rd (rs.getD i z126).f1 0 ≥ k then some false else table_Proper.l0 q rs (rs.length : Int) ((i + 1 : Nat) : Int) k n s rs0) else none) else table_Proper.l0 q rs (rs.length : Int) ((i + 1 : Nat) : Int) k n s rs0) r → Ev (fun q => table_Proper.l0 q rs (rs.length : Int) (i : Int) k n s rs0) r := by
      intro r hr
      refine Ev.step (fun q => by rw [table_Proper.l0]) (Ev.pos (by omega) (Ev.pos (by omega) (Ev.pos (by omega) ?_)))
      rw [rdR_nat, w64 (n := (i : Int) + 1) (by omega) (by omega)]
      exact hr
    rw [drop_cons hlt z126, proper_cons]
    generalize rs.getD i z126 = r at *
    have e0 : rd r.f1 0 = r.f1.getD 0 0 := rd_nat r.f1 0
    by_cases c0 : (r.f1.length : Int) = 0
    · refine ⟨false, pre (Ev.pos c0 (Ev.now _)), ?_⟩
      have : r.f1 = [] := List.length_eq_zero_iff.1 (by omega)
      simp [this]
    · by_cases c1 : (r.f1.length : Int) = 1
      · by_cases c2 : rd r.f1 0 ≥ k
        · refine ⟨false, pre (Ev.neg c0 (Ev.pos c1 (Ev.pos (by omega) (Ev.pos c2 (Ev.now _))))), ?_⟩
          refine ⟨fun h => by simp at h, fun h => ?_⟩
          have := h.1.2 _ (one_sign c1)
          omega
        · refine ⟨b, pre (Ev.neg c0 (Ev.pos c1 (Ev.pos (by omega) (Ev.neg c2 hb)))), ?_⟩
          rw [hbi]
          refine ⟨fun h => ⟨⟨fun e => c0 (by rw [e]; rfl), fun x hx => ?_⟩, h⟩, fun h => h.2⟩
          rw [e0, hx] at c2
          have c2 : ¬ x ≥ k := c2
          omega
      · refine ⟨b, pre (Ev.neg c0 (Ev.neg c1 hb)), ?_⟩
        rw [hbi]
        exact ⟨fun h => ⟨⟨fun e => c0 (by rw [e]; rfl), fun x hx => absurd (by rw [hx]; rfl) c1⟩, h⟩, fun h => h.2⟩
theorem proper_spec {k n s : Int} {rs : List S126} (hl : rs.length ≤ 1000) : ∃ b : Bool, Ev (fun q => table_Proper.f q k n s rs) b ∧ (b = true ↔ ProperG k rs) := by
  obtain ⟨b, hb, hi⟩ := proper_l0 k n s rs rs hl rs.length 0 (by omega)
  rw [List.drop_zero] at hi
  have hb' : Ev (fun q => table_Proper.l0 q rs (rs.length : Int) 0 k n s rs) b := hb
  exact ⟨b, Ev.congr (fun q => by rw [table_Proper.f]) hb', hi⟩
theorem rproper_l0 (k n s : Int) (rs0 rs : List S126) (hl : rs.length ≤ 1000) : ∀ (d i : Nat), i + d = rs.length →
    ∃ b : Bool, Ev (fun q => coppicerref_Proper.l0 q rs (rs.length : Int) (i : Int) k n s rs0) b ∧ (b = true ↔ ProperG k (rs.drop i)) := by
  intro d
  induction d with
  | zero =>
    intro i hi
    refine ⟨true, Ev.step (fun q => by rw [coppicerref_Proper.l0]) (Ev.neg (by omega) (Ev.now _)), ?_⟩
    rw [List.drop_of_length_le (by omega)]
    simp [proper_nil]
  | succ d ih =>
    intro i hi
    have hlt : i < rs.length := by omega
    obtain ⟨b, hb, hbi⟩ := ih (i + 1) (by omega)
    have pre : ∀ {r : Bool}, Ev (fun q => if ((rs.getD i z126).f1.length : Int) = 0 then some false else if ((rs.getD i z126).f1.length : Int) = 1 then (if 0 < ((rs.getD i z126).f1.length : Int) then (if rd (rs.getD i z126).f1 0 ≥ k then some false else coppicerref_Proper.l0 q rs (rs.length : Int) ((i + 1 : Nat) : Int) k n s rs0) else none) else coppicerref_Proper.l0 q rs (rs.length : Int) ((i + 1 : Nat) : Int) k n s rs0) r → Ev (fun q => coppicerref_Proper.l0 q rs (rs.length : Int) (i : Int) k n s rs0) r := by
      intro r hr
      refine Ev.step (fun q => by rw [coppicerref_Proper.l0]) (Ev.pos (by omega) (Ev.pos (by omega) (Ev.pos (by omega) ?_)))
      rw [rdR_nat, w64 (n := (i : Int) + 1) (by omega) (by omega)]
      exact hr
    rw [drop_cons hlt z126, proper_cons]
    generalize rs.getD i z126 = r at *
    have e0 : rd r.f1 0 = r.f1.getD 0 0 := rd_nat r.f1 0
    by_cases c0 : (r.f1.length : Int) = 0
    · refine ⟨false, pre (Ev.pos c0 (Ev.now _)), ?_⟩
      have : r.f1 = [] := List.length_eq_zero_iff.1 (by omega)
      simp [this]
    · by_cases c1 : (r.f1.length : Int) = 1
      · by_cases c2 : rd r.f1 0 ≥ k
        · refine ⟨false, pre (Ev.neg c0 (Ev.pos c1 (Ev.pos (by omega) (Ev.pos c2 (Ev.now _))))), ?_⟩
          refine ⟨fun h => by simp at h, fun h => ?_⟩
          have := h.1.2 _ (one_sign c1)
          omega
        · refine ⟨b, pre (Ev.neg c0 (Ev.pos c1 (Ev.pos (by omega) (Ev.neg c2 hb)))), ?_⟩
          rw [hbi]
          refine ⟨fun h => ⟨⟨fun e => c0 (by rw [e]; rfl), fun x hx => ?_⟩, h⟩, fun h => h.2⟩
          rw [e0, hx] at c2
          have c2 : ¬ x ≥ k := c2
          omega
      · refine ⟨b, pre (Ev.neg c0 (Ev.neg c1 hb)), ?_⟩
        rw [hbi]
        exact ⟨fun h => ⟨⟨fun e => c0 (by rw [e]; rfl), fun x hx => absurd (by rw [hx]; rfl) c1⟩, h⟩, fun h => h.2⟩
theorem rproper_spec {k n s : Int} {rs : List S126} (hl : rs.length ≤ 1000) : ∃ b : Bool, Ev (fun q => coppicerref_Proper.f q k n s rs) b ∧ (b = true ↔ ProperG k rs) := by
  obtain ⟨b, hb, hi⟩ := rproper_l0 k n s rs rs hl rs.length 0 (by omega)
  rw [List.drop_zero] at hi
  have hb' : Ev (fun q => coppicerref_Proper.l0 q rs (rs.length : Int) 0 k n s rs) b := hb
  exact ⟨b, Ev.congr (fun q => by rw [coppicerref_Proper.f]) hb', hi⟩
end Go.Proofs.Ythgiiikjcfhgjaa.PTM
