/- What climb.Read and climb.Show answer, by trees, in plain Lean. Conditions: none. -/
import Derived.Test.YthgiiikjcfhgjaaPCShort
import Derived.Test.YthgiiikjcfhgjaaGC2
import Derived.Test.YthgiiikjcfhgjaaGC4
import Derived.Test.YthgiiikjcfhgjaaGC3
import Derived.Test.YthgiiikjcfhgjaaGC6
import Derived.Test.YthgiiikjcfhgjaaGC5
namespace Go.Proofs.Ythgiiikjcfhgjaa.PCM
set_option linter.unusedVariables false
set_option linter.unusedSimpArgs false
open Go.RowKit Go.Proofs.Ythgiiikjcfhgjaa.GC Go.Proofs.YthgiiikjcfhgjaaW.PrintWords Go.Proofs.YthgiiikjcfhgjaaW.PrintLast Go.Proofs.YthgiiikjcfhgjaaW.PrintMore

theorem dropc {α : Type} {l : List α} {i : Nat} (h : i < l.length) (d : α) : l.drop i = l.getD i d :: l.drop (i + 1) := by
  rw [List.drop_eq_getElem_cons h, List.getD_eq_getElem?_getD, List.getElem?_eq_getElem h, Option.getD_some]
def lvO (ops : List S94) (x : Int) : Int := (rd_T94 ops x).f0
def rgO (ops : List S94) (x : Int) : Bool := (rd_T94 ops x).f1
theorem more_is (ops : List S94) (x y : Int) : cR.more ops x y = moreT (lvO ops) (rgO ops) x y := rfl
theorem markp_is (ops : List S94) (y x : Int) (r : Bool) : cS.markp ops y x r = markT (lvO ops) (rgO ops) y x r := rfl
def pairOk (ops : List S94) (i : Nat) : Prop := ∀ j : Nat, j < i → lvO ops i = lvO ops j → rgO ops i = rgO ops j
def signOk (N : Int) (m : Bool) (x : Int) : Prop := x ≥ 100 ∨ (0 ≤ x ∧ x < N) ∨ (m = true ∧ (x = -1 ∨ x = -2))
structure Chk (ops : List S94) (l : List Int) (m : Bool) : Prop where
  n : ops.length ≤ 6
  len : l.length ≤ 60
  pairs : ∀ i : Nat, i < ops.length → pairOk ops i
  signs : ∀ x ∈ l, signOk ops.length m x
theorem Chk.hr {ops : List S94} {l : List Int} {m : Bool} (h : Chk ops l m) : ∀ x y, 0 ≤ x → x < (ops.length : Int) → 0 ≤ y → y < (ops.length : Int) → lvO ops x = lvO ops y → rgO ops x = rgO ops y := by
  intro x y hx0 hx1 hy0 hy1 he
  obtain ⟨i, rfl⟩ := Int.eq_ofNat_of_zero_le hx0
  obtain ⟨j, rfl⟩ := Int.eq_ofNat_of_zero_le hy0
  rcases Nat.lt_trichotomy i j with c | c | c
  · exact (h.pairs j (by omega) i c he.symm).symm
  · rw [c]
  · exact h.pairs i (by omega) j c he
theorem any_iff (ops : List S94) (i : Nat) (hi : i ≤ ops.length) : (ops.take i).any (climb_any.p (lvO ops i) (rgO ops i)) = true ↔ ¬ pairOk ops i := by
  rw [List.any_eq_true]
  unfold pairOk
  constructor
  · rintro ⟨b, hb, hp⟩ h
    obtain ⟨j, hj, rfl⟩ := List.mem_iff_getElem.1 hb
    rw [List.length_take] at hj
    have e : (ops.take i)[j] = rd_T94 ops (j : Nat) := by
      rw [List.getElem_take, rd_T94, Int.toNat_natCast, List.getD_eq_getElem?_getD, List.getElem?_eq_getElem (by omega), Option.getD_some]
    rw [e] at hp
    have := h j (by omega)
    unfold climb_any.p at hp
    simp only [Bool.and_eq_true, beq_iff_eq, bne_iff_ne] at hp
    exact hp.2 (this hp.1)
  · intro h
    have : ∃ j, j < i ∧ lvO ops i = lvO ops j ∧ rgO ops i ≠ rgO ops j := by
      refine Classical.byContradiction fun hc => h fun j hj he => Classical.byContradiction fun hn => hc ⟨j, hj, he, hn⟩
    obtain ⟨j, hj, he, hn⟩ := this
    refine ⟨rd_T94 ops (j : Nat), ?_, ?_⟩
    · rw [rd_T94, Int.toNat_natCast, List.getD_eq_getElem?_getD, List.getElem?_eq_getElem (by omega), Option.getD_some]
      exact List.mem_iff_getElem.2 ⟨j, by rw [List.length_take]; omega, by rw [List.getElem_take]⟩
    · unfold climb_any.p
      simp only [Bool.and_eq_true, beq_iff_eq, bne_iff_ne]
      exact ⟨he, hn⟩
theorem wrong_words (ops : List S94) (l : List Int) (m : Bool) (hl : l.length ≤ 60) : ∀ (d i : Nat), i + d = l.length → ∃ e, Ev (fun q => climb_wrong.l1 q ops m l (l.length : Int) (i : Int)) e ∧ (e = 0 ↔ ∀ x ∈ l.drop i, signOk ops.length m x) := by
  intro d
  induction d with
  | zero =>
    intro i hi
    refine ⟨0, Ev.step (fun q => by rw [climb_wrong.l1]) (Ev.neg (by omega) (Ev.now _)), fun _ x hx => ?_, fun _ => rfl⟩
    rw [List.drop_eq_nil_of_le (by omega)] at hx; cases hx
  | succ d ih =>
    intro i hi
    have hlt : i < l.length := by omega
    obtain ⟨e, hE, hiff⟩ := ih (i + 1) (by omega)
    have hc : wrap64 ((i : Int) + 1) = ((i + 1 : Nat) : Int) := by rw [w64 (by omega) (by omega)]; omega
    have base : ∀ {e'}, Ev (fun q => (if rd l i < 100 then (if rd l i < (-2) then (some 2) else (if rd l i ≥ (ops.length : Int) then (some 2) else (if rd l i < 0 then (if m = true then (climb_wrong.l1 q ops m l (l.length : Int) (wrap64 ((i : Int) + 1))) else (some 2)) else (climb_wrong.l1 q ops m l (l.length : Int) (wrap64 ((i : Int) + 1)))))) else (climb_wrong.l1 q ops m l (l.length : Int) (wrap64 ((i : Int) + 1))))) e' → Ev (fun q => climb_wrong.l1 q ops m l (l.length : Int) (i : Int)) e' := fun h =>
      Ev.step (fun q => by rw [climb_wrong.l1]) (Ev.pos (by omega) (Ev.pos (by omega) (Ev.pos (by omega) h)))
    rw [hc] at base
    rw [dropc hlt 0]
    simp only [rd_nat] at base
    generalize l.getD i 0 = x at base
    by_cases h1 : x < 100
    · by_cases h2 : x < -2
      · exact ⟨2, base (Ev.pos h1 (Ev.pos h2 (Ev.now _))), fun h => absurd h (by decide), fun h => by have := h x List.mem_cons_self; unfold signOk at this; omega⟩
      · by_cases h3 : x ≥ (ops.length : Int)
        · exact ⟨2, base (Ev.pos h1 (Ev.neg h2 (Ev.pos h3 (Ev.now _)))), fun h => absurd h (by decide), fun h => by have := h x List.mem_cons_self; unfold signOk at this; omega⟩
        · by_cases h4 : x < 0
          · by_cases h5 : m = true
            · exact ⟨e, base (Ev.pos h1 (Ev.neg h2 (Ev.neg h3 (Ev.pos h4 (Ev.pos h5 hE))))), fun h y hy => by rcases List.mem_cons.1 hy with c | c; (subst c; exact .inr (.inr ⟨h5, by omega⟩)); exact hiff.1 h y c, fun h => hiff.2 (fun y hy => h y (List.mem_cons_of_mem _ hy))⟩
            · exact ⟨2, base (Ev.pos h1 (Ev.neg h2 (Ev.neg h3 (Ev.pos h4 (Ev.neg h5 (Ev.now _)))))), fun h => absurd h (by decide), fun h => by have := h x List.mem_cons_self; unfold signOk at this; rcases this with c | c | c; omega; omega; exact absurd c.1 h5⟩
          · exact ⟨e, base (Ev.pos h1 (Ev.neg h2 (Ev.neg h3 (Ev.neg h4 hE)))), fun h y hy => by rcases List.mem_cons.1 hy with c | c; (subst c; exact .inr (.inl (by omega))); exact hiff.1 h y c, fun h => hiff.2 (fun y hy => h y (List.mem_cons_of_mem _ hy))⟩
    · exact ⟨e, base (Ev.neg h1 hE), fun h y hy => by rcases List.mem_cons.1 hy with c | c; (subst c; exact .inl (by omega)); exact hiff.1 h y c, fun h => hiff.2 (fun y hy => h y (List.mem_cons_of_mem _ hy))⟩
theorem wrong_pairs (ops : List S94) (l : List Int) (m : Bool) (hn : ops.length ≤ 6) (hl : l.length ≤ 60) : ∀ (d i : Nat), i + d = ops.length → ∃ e, Ev (fun q => climb_wrong.l0 q ops l m ops (ops.length : Int) (i : Int)) e ∧ (e = 0 ↔ (∀ j : Nat, i ≤ j → j < ops.length → pairOk ops j) ∧ ∀ x ∈ l, signOk ops.length m x) := by
  intro d
  induction d with
  | zero =>
    intro i hi
    obtain ⟨e, hE, hiff⟩ := wrong_words ops l m hl l.length 0 (by omega)
    refine ⟨e, Ev.step (fun q => by rw [climb_wrong.l0]; rfl) (Ev.neg (by omega) hE), ?_⟩
    rw [hiff, List.drop_zero]
    exact ⟨fun h => ⟨fun j h1 h2 => by omega, h⟩, fun h => h.2⟩
  | succ d ih =>
    intro i hi
    obtain ⟨e, hE, hiff⟩ := ih (i + 1) (by omega)
    have hc : wrap64 ((i : Int) + 1) = ((i + 1 : Nat) : Int) := by rw [w64 (by omega) (by omega)]; omega
    have base : ∀ {e'}, Ev (fun q => if (ops.take ((i : Int)).toNat).any (climb_any.p (lvO ops i) (rgO ops i)) = true then some 3 else climb_wrong.l0 q ops l m ops (ops.length : Int) (wrap64 ((i : Int) + 1))) e' → Ev (fun q => climb_wrong.l0 q ops l m ops (ops.length : Int) (i : Int)) e' := fun h =>
      Ev.step (fun q => by rw [climb_wrong.l0]; rfl) (Ev.pos (by omega) (Ev.pos (by omega) (Ev.pos (by omega) (Ev.pos (by omega) (Ev.bindc rfl h)))))
    rw [hc, Int.toNat_natCast] at base
    by_cases h : (ops.take i).any (climb_any.p (lvO ops i) (rgO ops i)) = true
    · refine ⟨3, base (Ev.pos h (Ev.now _)), fun h => absurd h (by decide), fun h2 => absurd (h2.1 i (Nat.le_refl _) (by omega)) ((any_iff ops i (by omega)).1 h)⟩
    · refine ⟨e, base (Ev.neg h hE), ?_⟩
      have hp : pairOk ops i := Classical.byContradiction fun hc => h ((any_iff ops i (by omega)).2 hc)
      rw [hiff]
      exact ⟨fun h => ⟨fun j h1 h2 => by rcases Nat.lt_or_ge i j with c | c; exact h.1 j c h2; (obtain rfl : j = i := by omega); exact hp, h.2⟩, fun h => ⟨fun j h1 h2 => h.1 j (by omega) h2, h.2⟩⟩
theorem wrong_spec (ops : List S94) (l : List Int) (m : Bool) : ∃ e, Ev (fun q => climb_wrong.f q ops l m) e ∧ (e = 0 ↔ Chk ops l m) := by
  by_cases h : (ops.length : Int) > 6
  · exact ⟨1, Ev.congr (fun q => by rw [climb_wrong.f]) (Ev.pos h (Ev.step (fun q => by rw [climb_wrong.j0]) (Ev.pos rfl (Ev.now _)))), fun h' => absurd h' (by decide), fun h' => by have := h'.n; omega⟩
  · by_cases h2 : (l.length : Int) > 60
    · exact ⟨1, Ev.congr (fun q => by rw [climb_wrong.f]) (Ev.neg h (Ev.step (fun q => by rw [climb_wrong.j0]) (Ev.pos (by simpa using h2) (Ev.now _)))), fun h' => absurd h' (by decide), fun h' => by have := h'.len; omega⟩
    · obtain ⟨e, hE, hiff⟩ := wrong_pairs ops l m (by omega) (by omega) ops.length 0 (by omega)
      refine ⟨e, Ev.congr (fun q => by rw [climb_wrong.f]) (Ev.neg h (Ev.step (fun q => by rw [climb_wrong.j0]; rfl) (Ev.neg (c := decide ((l.length : Int) > 60) = true) (by simpa using h2) hE))), ?_⟩
      rw [hiff]
      exact ⟨fun h' => ⟨by omega, by omega, fun i hi => h'.1 i (Nat.zero_le _) hi, h'.2⟩, fun h' => ⟨fun j _ hj => h'.pairs j hj, h'.signs⟩⟩
theorem ref_words (ops : List S94) (l : List Int) (m : Bool) (hl : l.length ≤ 60) : ∀ (d i : Nat), i + d = l.length → ∃ e, Ev (fun q => coppicerref_OpsCheck.l2 q ops m l (l.length : Int) (i : Int)) e ∧ (e = 0 ↔ ∀ x ∈ l.drop i, signOk ops.length m x) := by
  intro d
  induction d with
  | zero =>
    intro i hi
    refine ⟨0, Ev.step (fun q => by rw [coppicerref_OpsCheck.l2]) (Ev.neg (by omega) (Ev.now _)), fun _ x hx => ?_, fun _ => rfl⟩
    rw [List.drop_eq_nil_of_le (by omega)] at hx; cases hx
  | succ d ih =>
    intro i hi
    have hlt : i < l.length := by omega
    obtain ⟨e, hE, hiff⟩ := ih (i + 1) (by omega)
    have hc : wrap64 ((i : Int) + 1) = ((i + 1 : Nat) : Int) := by rw [w64 (by omega) (by omega)]; omega
    have base : ∀ {e'}, Ev (fun q => (if (rd l i) ≥ 100 then (coppicerref_OpsCheck.l2 q ops m l (l.length : Int) (wrap64 ((i : Int) + 1))) else (if (rd l i) ≥ 0 then (if (rd l i) < (ops.length : Int) then (coppicerref_OpsCheck.l2 q ops m l (l.length : Int) (wrap64 ((i : Int) + 1))) else (if m = true then (if (rd l i) = (-1) then (coppicerref_OpsCheck.l2 q ops m l (l.length : Int) (wrap64 ((i : Int) + 1))) else (if (rd l i) = (-2) then (coppicerref_OpsCheck.l2 q ops m l (l.length : Int) (wrap64 ((i : Int) + 1))) else (some 2))) else (some 2))) else (if m = true then (if (rd l i) = (-1) then (coppicerref_OpsCheck.l2 q ops m l (l.length : Int) (wrap64 ((i : Int) + 1))) else (if (rd l i) = (-2) then (coppicerref_OpsCheck.l2 q ops m l (l.length : Int) (wrap64 ((i : Int) + 1))) else (some 2))) else (some 2))))) e' → Ev (fun q => coppicerref_OpsCheck.l2 q ops m l (l.length : Int) (i : Int)) e' := fun h =>
      Ev.step (fun q => by rw [coppicerref_OpsCheck.l2]) (Ev.pos (by omega) (Ev.pos (by omega) (Ev.pos (by omega) h)))
    rw [hc] at base
    rw [dropc hlt 0]
    simp only [rd_nat] at base
    generalize l.getD i 0 = x at base
    have good : signOk ops.length m x → (e = 0 ↔ ∀ y ∈ x :: l.drop (i + 1), signOk ops.length m y) := fun hx => ⟨fun h y hy => by rcases List.mem_cons.1 hy with c | c; exact c ▸ hx; exact hiff.1 h y c, fun h => hiff.2 (fun y hy => h y (List.mem_cons_of_mem _ hy))⟩
    have bad : ¬ signOk ops.length m x → ((2 : Int) = 0 ↔ ∀ y ∈ x :: l.drop (i + 1), signOk ops.length m y) := fun hx => ⟨fun h => absurd h (by decide), fun h => absurd (h x List.mem_cons_self) hx⟩
    by_cases h1 : x ≥ 100
    · exact ⟨e, base (Ev.pos h1 hE), good (.inl h1)⟩
    · by_cases h2 : x ≥ 0
      · by_cases h3 : x < (ops.length : Int)
        · exact ⟨e, base (Ev.neg h1 (Ev.pos h2 (Ev.pos h3 hE))), good (.inr (.inl ⟨h2, h3⟩))⟩
        · have hb : ¬ signOk ops.length m x := by unfold signOk; omega
          by_cases h4 : m = true
          · exact ⟨2, base (Ev.neg h1 (Ev.pos h2 (Ev.neg h3 (Ev.pos h4 (Ev.neg (by omega) (Ev.neg (by omega) (Ev.now _))))))), bad hb⟩
          · exact ⟨2, base (Ev.neg h1 (Ev.pos h2 (Ev.neg h3 (Ev.neg h4 (Ev.now _))))), bad hb⟩
      · by_cases h4 : m = true
        · by_cases h5 : x = -1
          · exact ⟨e, base (Ev.neg h1 (Ev.neg h2 (Ev.pos h4 (Ev.pos h5 hE)))), good (.inr (.inr ⟨h4, .inl h5⟩))⟩
          · by_cases h6 : x = -2
            · exact ⟨e, base (Ev.neg h1 (Ev.neg h2 (Ev.pos h4 (Ev.neg h5 (Ev.pos h6 hE))))), good (.inr (.inr ⟨h4, .inr h6⟩))⟩
            · exact ⟨2, base (Ev.neg h1 (Ev.neg h2 (Ev.pos h4 (Ev.neg h5 (Ev.neg h6 (Ev.now _)))))), bad (by unfold signOk; omega)⟩
        · exact ⟨2, base (Ev.neg h1 (Ev.neg h2 (Ev.neg h4 (Ev.now _)))), bad (by unfold signOk; rintro (c | c | c); omega; omega; exact h4 c.1)⟩
theorem ref_inner (ops : List S94) (l : List Int) (m : Bool) (hn : ops.length ≤ 6) (i : Nat) (hi : i < ops.length) {e : Int} (hE : Ev (fun q => coppicerref_OpsCheck.l0 q ops l m ops (ops.length : Int) ((i + 1 : Nat) : Int)) e) {P : Prop} (hP : e = 0 ↔ P) : ∀ (d j : Nat), j + d = i → ∃ e', Ev (fun q => coppicerref_OpsCheck.l1 q ops l m ops (ops.length : Int) (i : Int) (ops.take i) ((ops.take i).length : Int) (j : Int) (lvO ops i) (rgO ops i)) e' ∧ (e' = 0 ↔ (∀ j' : Nat, j ≤ j' → j' < i → lvO ops i = lvO ops j' → rgO ops i = rgO ops j') ∧ P) := by
  have htl : (ops.take i).length = i := by rw [List.length_take]; omega
  have hc0 : wrap64 ((i : Int) + 1) = ((i + 1 : Nat) : Int) := by rw [w64 (by omega) (by omega)]; omega
  intro d
  induction d with
  | zero =>
    intro j hj
    refine ⟨e, Ev.step (fun q => by rw [coppicerref_OpsCheck.l1]) (Ev.neg (by rw [htl]; omega) ?_), ?_⟩
    · rw [hc0]; exact hE
    · rw [hP]; exact ⟨fun h => ⟨fun j' h1 h2 => by omega, h⟩, fun h => h.2⟩
  | succ d ih =>
    intro j hj
    obtain ⟨e', hE', hiff⟩ := ih (j + 1) (by omega)
    have hc : wrap64 ((j : Int) + 1) = ((j + 1 : Nat) : Int) := by rw [w64 (by omega) (by omega)]; omega
    have hrd : rd_T94 (ops.take i) (j : Int) = rd_T94 ops (j : Int) := by
      simp only [rd_T94, Int.toNat_natCast, List.getD_eq_getElem?_getD]
      rw [List.getElem?_take_of_lt (by omega)]
    have base : ∀ {x}, Ev (fun q => (if lvO ops i = lvO ops j then (if (rgO ops i != rgO ops j) = true then (some 3) else (coppicerref_OpsCheck.l1 q ops l m ops (ops.length : Int) (i : Int) (ops.take i) ((ops.take i).length : Int) (wrap64 ((j : Int) + 1)) (lvO ops i) (rgO ops i))) else (coppicerref_OpsCheck.l1 q ops l m ops (ops.length : Int) (i : Int) (ops.take i) ((ops.take i).length : Int) (wrap64 ((j : Int) + 1)) (lvO ops i) (rgO ops i)))) x → Ev (fun q => coppicerref_OpsCheck.l1 q ops l m ops (ops.length : Int) (i : Int) (ops.take i) ((ops.take i).length : Int) (j : Int) (lvO ops i) (rgO ops i)) x := fun h =>
      Ev.step (fun q => by rw [coppicerref_OpsCheck.l1]; simp only [hrd]; rfl) (Ev.pos (by rw [htl]; omega) (Ev.pos (by omega) (Ev.pos (by rw [htl]; omega) h)))
    rw [hc] at base
    by_cases h1 : lvO ops i = lvO ops j
    · by_cases h2 : (rgO ops i != rgO ops j) = true
      · refine ⟨3, base (Ev.pos h1 (Ev.pos h2 (Ev.now _))), fun h => absurd h (by decide), fun h => ?_⟩
        exact absurd (h.1 j (Nat.le_refl _) (by omega) h1) (by simpa using h2)
      · refine ⟨e', base (Ev.pos h1 (Ev.neg h2 hE')), ?_⟩
        rw [hiff]
        exact ⟨fun h => ⟨fun j' a b => by rcases Nat.lt_or_ge j j' with c | c; exact h.1 j' c b; (obtain rfl : j' = j := by omega); exact fun _ => by simpa using h2, h.2⟩, fun h => ⟨fun j' a b => h.1 j' (by omega) b, h.2⟩⟩
    · refine ⟨e', base (Ev.neg h1 hE'), ?_⟩
      rw [hiff]
      exact ⟨fun h => ⟨fun j' a b => by rcases Nat.lt_or_ge j j' with c | c; exact h.1 j' c b; (obtain rfl : j' = j := by omega); exact fun e => absurd e h1, h.2⟩, fun h => ⟨fun j' a b => h.1 j' (by omega) b, h.2⟩⟩
theorem ref_pairs (ops : List S94) (l : List Int) (m : Bool) (hn : ops.length ≤ 6) (hl : l.length ≤ 60) : ∀ (d i : Nat), i + d = ops.length → ∃ e, Ev (fun q => coppicerref_OpsCheck.l0 q ops l m ops (ops.length : Int) (i : Int)) e ∧ (e = 0 ↔ (∀ j : Nat, i ≤ j → j < ops.length → pairOk ops j) ∧ ∀ x ∈ l, signOk ops.length m x) := by
  intro d
  induction d with
  | zero =>
    intro i hi
    obtain ⟨e, hE, hiff⟩ := ref_words ops l m hl l.length 0 (by omega)
    refine ⟨e, Ev.step (fun q => by rw [coppicerref_OpsCheck.l0]; rfl) (Ev.neg (by omega) hE), ?_⟩
    rw [hiff, List.drop_zero]
    exact ⟨fun h => ⟨fun j h1 h2 => by omega, h⟩, fun h => h.2⟩
  | succ d ih =>
    intro i hi
    obtain ⟨e, hE, hiff⟩ := ih (i + 1) (by omega)
    obtain ⟨e', hE', hiff'⟩ := ref_inner ops l m hn i (by omega) hE hiff i 0 (by omega)
    refine ⟨e', Ev.step (fun q => by rw [coppicerref_OpsCheck.l0]) (Ev.pos (by omega) (Ev.pos (by omega) (Ev.pos (by omega) (Ev.pos (by omega) (Ev.let_ ?_))))), ?_⟩
    · rw [Int.toNat_natCast]; exact hE'
    · rw [hiff']
      refine ⟨fun h => ⟨fun j h1 h2 => ?_, h.2.2⟩, fun h => ⟨fun j _ hj => h.1 i (Nat.le_refl _) (by omega) j hj, fun j h1 h2 => h.1 j (by omega) h2, h.2⟩⟩
      rcases Nat.lt_or_ge i j with c | c
      · exact h.2.1 j c h2
      · obtain rfl : j = i := by omega
        exact fun j' hj' => h.1 j' (Nat.zero_le _) hj'
theorem ref_spec (ops : List S94) (l : List Int) (m : Bool) : ∃ e, Ev (fun q => coppicerref_OpsCheck.f q ops l m) e ∧ (e = 0 ↔ Chk ops l m) := by
  by_cases h : (ops.length : Int) > 6
  · exact ⟨1, Ev.congr (fun q => by rw [coppicerref_OpsCheck.f]) (Ev.pos h (Ev.step (fun q => by rw [coppicerref_OpsCheck.j0]) (Ev.pos rfl (Ev.now _)))), fun h' => absurd h' (by decide), fun h' => by have := h'.n; omega⟩
  · by_cases h2 : (l.length : Int) > 60
    · exact ⟨1, Ev.congr (fun q => by rw [coppicerref_OpsCheck.f]) (Ev.neg h (Ev.step (fun q => by rw [coppicerref_OpsCheck.j0]) (Ev.pos (by simpa using h2) (Ev.now _)))), fun h' => absurd h' (by decide), fun h' => by have := h'.len; omega⟩
    · obtain ⟨e, hE, hiff⟩ := ref_pairs ops l m (by omega) (by omega) ops.length 0 (by omega)
      refine ⟨e, Ev.congr (fun q => by rw [coppicerref_OpsCheck.f]) (Ev.neg h (Ev.step (fun q => by rw [coppicerref_OpsCheck.j0]; rfl) (Ev.neg (c := decide ((l.length : Int) > 60) = true) (by simpa using h2) hE))), ?_⟩
      rw [hiff]
      exact ⟨fun h' => ⟨by omega, by omega, fun i hi => h'.1 i (Nat.zero_le _) hi, h'.2⟩, fun h' => ⟨fun j _ hj => h'.pairs j hj, h'.signs⟩⟩
theorem ints_loop (x y : List Int) (he : x.length = y.length) (hm : x.length ≤ 1000000) : ∀ (d i : Nat), i + d = x.length → Ev (fun q => coppicerref_Ints.l0 q x y (i : Int)) (decide (x.drop i = y.drop i)) := by
  intro d
  induction d with
  | zero =>
    intro i hi
    refine Ev.step (fun q => by rw [coppicerref_Ints.l0]) (Ev.neg (by omega) ?_)
    rw [List.drop_eq_nil_of_le (by omega), List.drop_eq_nil_of_le (by omega)]
    exact Ev.now _
  | succ d ih =>
    intro i hi
    refine Ev.step (fun q => by rw [coppicerref_Ints.l0]) (Ev.pos (by omega) (Ev.pos (by omega) (Ev.pos (by omega) ?_)))
    rw [rd_nat, rd_nat, dropc (l := x) (i := i) (by omega) 0, dropc (l := y) (i := i) (by omega) 0]
    by_cases h : x.getD i 0 = y.getD i 0
    · refine Ev.pos h ?_
      rw [h, w64 (n := (i : Int) + 1) (by omega) (by omega)]
      refine Ev.eq (ih (i + 1) (by omega)) ?_
      simp
    · refine Ev.neg h (Ev.eq (Ev.now _) ?_)
      rw [eq_comm, decide_eq_false_iff_not]
      intro e
      exact h (List.cons.inj e).1
theorem ints_spec (x y : List Int) (hm : x.length ≤ 1000000) : Ev (fun q => coppicerref_Ints.f q x y) (decide (x = y)) := by
  by_cases h : (x.length : Int) = (y.length : Int)
  · refine Ev.congr (fun q => by rw [coppicerref_Ints.f]) (Ev.pos h ?_)
    have := ints_loop x y (by omega) hm x.length 0 (by omega)
    rw [List.drop_zero, List.drop_zero] at this
    exact this
  · refine Ev.congr (fun q => by rw [coppicerref_Ints.f]) (Ev.neg h (Ev.eq (Ev.now _) ?_))
    rw [eq_comm, decide_eq_false_iff_not]
    intro e
    exact h (by rw [e])
end Go.Proofs.Ythgiiikjcfhgjaa.PCM
