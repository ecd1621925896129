/- Words on turners in plain Lean: what turner.Check answers. Conditions: none. -/
import Derived.Test.YtiiankjmeodjdaaPTMachine0
import Derived.Test.YtiiankjmeodjdaaGT3
namespace Go.Proofs.Ytiiankjmeodjdaa.PTM
set_option linter.unusedVariables false
set_option linter.unusedSimpArgs false
open Go.RowKit Go.Proofs.Ytiiankjmeodjdaa.GT Go.Proofs.YtiiankjmeodjdaaW.PrintWords Go.Proofs.YtiiankjmeodjdaaW.PrintLast Go.Proofs.YtiiankjmeodjdaaW.PrintMore

theorem rdA_nat (xs : List (List Int)) (i : Nat) : rd_L1 xs (i : Int) = xs.getD i [] := by simp [rd_L1]
theorem rdB_nat (xs : List (List (List Int))) (i : Nat) : rd_L2 xs (i : Int) = xs.getD i [] := by simp [rd_L2]
/-- A turner as the document has it. -/
structure GoodT (n k l : Int) (nx : List (List Int)) (ou : List (List (List Int))) (s : Int) : Prop where
  n1 : 1 ≤ n
  n7 : n ≤ 7
  k1 : 1 ≤ k
  k3 : k ≤ 3
  l1 : 1 ≤ l
  l3 : l ≤ 3
  ln : (nx.length : Int) = n
  lo : (ou.length : Int) = n
  row : ∀ i : Nat, i < n.toNat → ((nx.getD i []).length : Int) = k ∧ ((ou.getD i []).length : Int) = k
  small : ∀ r ∈ ou, ∀ w ∈ r, w.length ≤ 4
  en : ∀ r ∈ nx, ∀ x ∈ r, 0 ≤ x ∧ x < n
  s0 : 0 ≤ s
  s1 : s < n
  eo : ∀ r ∈ ou, ∀ w ∈ r, ∀ x ∈ w, 0 ≤ x ∧ x < l
theorem flat_le {α : Type} : ∀ {rs : List (List α)} {k : Nat}, (∀ r ∈ rs, r.length ≤ k) → rs.flatten.length ≤ rs.length * k
  | [], k, _ => by simp
  | r :: rs, k, h => by
    have h1 := h r List.mem_cons_self
    have h2 := flat_le (rs := rs) (k := k) (fun x hx => h x (List.mem_cons_of_mem _ hx))
    rw [List.flatten_cons, List.length_append, List.length_cons, Nat.add_mul, Nat.one_mul]
    omega
theorem tcheck_l2 {n k l s : Int} {nx : List (List Int)} {ou : List (List (List Int))} (xs : List Int) (hx : xs.length ≤ 1000) : ∀ (d i : Nat), i + d = xs.length → ∃ e, Ev (fun q => turner_Check.l2 q xs (xs.length : Int) (i : Int) n k l nx ou s) e ∧ (e = 0 ↔ ∀ x ∈ xs.drop i, 0 ≤ x ∧ x < l) := by
  intro d
  induction d with
  | zero =>
    intro i hi
    rw [List.drop_eq_nil_of_le (by omega)]
    exact ⟨0, Ev.step (fun q => by rw [turner_Check.l2]) (Ev.neg (by omega) (Ev.now _)), fun _ x hx => absurd hx (by simp), fun _ => rfl⟩
  | succ d ih =>
    intro i hi
    have hlt : i < xs.length := by omega
    obtain ⟨e, he, hie⟩ := ih (i + 1) (by omega)
    rw [drop_cons hlt 0]
    have pre : ∀ {r : Int}, Ev (fun q => if xs.getD i 0 < 0 then some 2 else if xs.getD i 0 ≥ l then some 2 else turner_Check.l2 q xs (xs.length : Int) ((i + 1 : Nat) : Int) n k l nx ou s) r → Ev (fun q => turner_Check.l2 q xs (xs.length : Int) (i : Int) n k l nx ou s) r := by
      intro r h
      refine Ev.step (fun q => by rw [turner_Check.l2]) ?_
      refine Ev.pos (by omega) (Ev.pos (by omega) (Ev.pos (by omega) ?_))
      rw [rd_nat, w64 (n := (i : Int) + 1) (by omega) (by omega)]
      exact h
    by_cases c1 : xs.getD i 0 < 0
    · exact ⟨2, pre (Ev.pos c1 (Ev.now _)), fun h => absurd h (by decide), fun h => by have := h _ List.mem_cons_self; omega⟩
    by_cases c2 : xs.getD i 0 ≥ l
    · exact ⟨2, pre (Ev.neg c1 (Ev.pos c2 (Ev.now _))), fun h => absurd h (by decide), fun h => by have := h _ List.mem_cons_self; omega⟩
    refine ⟨e, pre (Ev.neg c1 (Ev.neg c2 he)), ?_⟩
    rw [hie]
    exact ⟨fun h x hx => by rcases List.mem_cons.1 hx with rfl | hx; exact ⟨by omega, by omega⟩; exact h x hx, fun h x hx => h x (List.mem_cons_of_mem _ hx)⟩
theorem tcheck_l1 {n k l s : Int} {nx : List (List Int)} {ou : List (List (List Int))} {W : List (List Int)} (hW : W.length ≤ 1000) (hw : ∀ w ∈ W, w.length ≤ 4) (hF : W.flatten.length ≤ 1000) (xs : List Int) (hx : xs.length ≤ 1000) : ∀ (d i : Nat), i + d = xs.length → ∃ e, Ev (fun q => turner_Check.l1 q W xs (xs.length : Int) (i : Int) n k l nx ou s) e ∧ (e = 0 ↔ (∀ x ∈ xs.drop i, 0 ≤ x ∧ x < n) ∧ ∀ x ∈ W.flatten, 0 ≤ x ∧ x < l) := by
  intro d
  induction d with
  | zero =>
    intro i hi
    rw [List.drop_eq_nil_of_le (by omega)]
    obtain ⟨e, he, hie⟩ := tcheck_l2 (n := n) (k := k) (l := l) (nx := nx) (ou := ou) (s := s) W.flatten hF W.flatten.length 0 (by omega)
    rw [List.drop_zero] at hie
    refine ⟨e, Ev.step (fun q => by rw [turner_Check.l1]) (Ev.neg (by omega) (Ev.bindc (a := W.flatten) (by unfold slices_Concat_int_int_65.f; rw [if_pos ⟨by omega, by omega⟩]) he)), ?_⟩
    rw [hie]
    exact ⟨fun h => ⟨fun x hx => absurd hx (by simp), h⟩, fun h => h.2⟩
  | succ d ih =>
    intro i hi
    have hlt : i < xs.length := by omega
    obtain ⟨e, he, hie⟩ := ih (i + 1) (by omega)
    rw [drop_cons hlt 0]
    have pre : ∀ {r : Int}, Ev (fun q => if xs.getD i 0 < 0 then some 2 else if xs.getD i 0 ≥ n then some 2 else turner_Check.l1 q W xs (xs.length : Int) ((i + 1 : Nat) : Int) n k l nx ou s) r → Ev (fun q => turner_Check.l1 q W xs (xs.length : Int) (i : Int) n k l nx ou s) r := by
      intro r h
      refine Ev.step (fun q => by rw [turner_Check.l1]) ?_
      refine Ev.pos (by omega) (Ev.pos (by omega) (Ev.pos (by omega) ?_))
      rw [rd_nat, w64 (n := (i : Int) + 1) (by omega) (by omega)]
      exact h
    by_cases c1 : xs.getD i 0 < 0
    · exact ⟨2, pre (Ev.pos c1 (Ev.now _)), fun h => absurd h (by decide), fun h => by have := h.1 _ List.mem_cons_self; omega⟩
    by_cases c2 : xs.getD i 0 ≥ n
    · exact ⟨2, pre (Ev.neg c1 (Ev.pos c2 (Ev.now _))), fun h => absurd h (by decide), fun h => by have := h.1 _ List.mem_cons_self; omega⟩
    refine ⟨e, pre (Ev.neg c1 (Ev.neg c2 he)), ?_⟩
    rw [hie]
    exact ⟨fun h => ⟨fun x hx => by rcases List.mem_cons.1 hx with rfl | hx; exact ⟨by omega, by omega⟩; exact h.1 x hx, h.2⟩, fun h => ⟨fun x hx => h.1 x (List.mem_cons_of_mem _ hx), h.2⟩⟩
theorem all_rows {α : Type} {rs : List (List α)} {n k : Int} (hl : (rs.length : Int) = n) (h : ∀ i : Nat, i < n.toNat → ((rs.getD i []).length : Int) = k) : ∀ r ∈ rs, (r.length : Int) = k := by
  intro r hr
  obtain ⟨i, hi, rfl⟩ := List.getElem_of_mem hr
  have := h i (by omega)
  rwa [List.getD_eq_getElem?_getD, List.getElem?_eq_getElem hi, Option.getD_some] at this
theorem tcheck_l0 {n k l s : Int} {nx : List (List Int)} {ou : List (List (List Int))} (n1 : 1 ≤ n) (n7 : n ≤ 7) (k1 : 1 ≤ k) (k3 : k ≤ 3) (hn : (nx.length : Int) = n) (ho : (ou.length : Int) = n) : ∀ (d i : Nat), i + d = n.toNat → (∀ j : Nat, j < i → ((nx.getD j []).length : Int) = k ∧ ((ou.getD j []).length : Int) = k) →
    ∃ e, Ev (fun q => turner_Check.l0 q n (i : Int) n k l nx ou s) e ∧ (e = 0 ↔ (∀ j : Nat, j < n.toNat → ((nx.getD j []).length : Int) = k ∧ ((ou.getD j []).length : Int) = k) ∧ (∀ w ∈ ou.flatten, w.length ≤ 4) ∧ (∀ x ∈ nx.flatten ++ [s], 0 ≤ x ∧ x < n) ∧ ∀ x ∈ ou.flatten.flatten, 0 ≤ x ∧ x < l) := by
  intro d
  induction d with
  | zero =>
    intro i hi hg
    have hg2 : ∀ j : Nat, j < n.toNat → ((nx.getD j []).length : Int) = k ∧ ((ou.getD j []).length : Int) = k := fun j hj => hg j (by omega)
    have hf1 := flat_le (rs := nx) (k := 3) (fun r hr => by have := all_rows hn (fun i hi => (hg2 i hi).1) r hr; omega)
    have hf2 := flat_le (rs := ou) (k := 3) (fun r hr => by have := all_rows ho (fun i hi => (hg2 i hi).2) r hr; omega)
    have e1 : slices_Concat_int_int_66.f ou = some ou.flatten := by unfold slices_Concat_int_int_66.f; rw [if_pos ⟨by omega, by omega⟩]
    have e2 : slices_Concat_int_int_65.f nx = some nx.flatten := by unfold slices_Concat_int_int_65.f; rw [if_pos ⟨by omega, by omega⟩]
    by_cases c : ou.flatten.any (fun l => decide ((l.length : Int) > 4)) = true
    · refine ⟨1, Ev.step (fun q => by rw [turner_Check.l0]) (Ev.neg (by omega) (Ev.bindc e1 (Ev.bindc rfl (Ev.pos c (Ev.now _))))), fun h => absurd h (by decide), fun h => ?_⟩
      rw [List.any_eq_true] at c
      obtain ⟨w, hw, h2⟩ := c
      have := h.2.1 w hw
      rw [decide_eq_true_iff] at h2
      omega
    · have hsm : ∀ w ∈ ou.flatten, w.length ≤ 4 := fun w hw => by
        rcases Nat.lt_or_ge 4 w.length with h3 | h3
        · exact absurd (List.any_eq_true.2 ⟨w, hw, decide_eq_true (show ((w.length : Int) > 4) by omega)⟩) c
        · exact h3
      have hf3 := flat_le (rs := ou.flatten) (k := 4) hsm
      obtain ⟨e, he, hie⟩ := tcheck_l1 (n := n) (k := k) (l := l) (nx := nx) (ou := ou) (s := s) (W := ou.flatten) (by omega) hsm (by omega) (nx.flatten ++ [s]) (by rw [List.length_append, List.length_singleton]; omega) (nx.flatten ++ [s]).length 0 (by omega)
      rw [List.drop_zero] at hie
      refine ⟨e, ?_, ?_⟩
      · refine Ev.step (fun q => by rw [turner_Check.l0]) ?_
        refine Ev.neg (by omega) ?_
        refine Ev.bindc e1 ?_
        refine Ev.bindc (a := ou.flatten.any (fun l => decide ((l.length : Int) > 4))) rfl ?_
        refine Ev.neg c ?_
        refine Ev.bindc e2 ?_
        refine Ev.let_ ?_
        refine Ev.pos (by rw [List.length_singleton]; omega) ?_
        refine Ev.let_ ?_
        exact he
      rw [hie]
      exact ⟨fun h => ⟨hg2, hsm, h.1, h.2⟩, fun h => ⟨h.2.2.1, h.2.2.2⟩⟩
  | succ d ih =>
    intro i hi hg
    have pre : ∀ {r : Int}, Ev (fun q => if ((nx.getD i []).length : Int) = k then (if ((ou.getD i []).length : Int) = k then turner_Check.l0 q n ((i + 1 : Nat) : Int) n k l nx ou s else some 3) else some 3) r → Ev (fun q => turner_Check.l0 q n (i : Int) n k l nx ou s) r := by
      intro r h
      refine Ev.step (fun q => by rw [turner_Check.l0]) ?_
      refine Ev.pos (by omega) (Ev.pos (by omega) (Ev.pos (by omega) ?_))
      rw [rdA_nat, rdB_nat, w64 (n := (i : Int) + 1) (by omega) (by omega)]
      by_cases c : ((nx.getD i []).length : Int) = k
      · refine Ev.pos c (Ev.pos (by omega) ?_)
        exact Ev.congr (fun _ => by rw [if_pos c]; rfl) h
      · refine Ev.neg c ?_
        exact Ev.congr (fun _ => by rw [if_neg c]) h
    by_cases c1 : ((nx.getD i []).length : Int) = k
    · by_cases c2 : ((ou.getD i []).length : Int) = k
      · obtain ⟨e, he, hie⟩ := ih (i + 1) (by omega) (fun j hj => by
          by_cases c : j = i
          · rw [c]; exact ⟨c1, c2⟩
          · exact hg j (by omega))
        exact ⟨e, pre (Ev.pos c1 (Ev.pos c2 he)), hie⟩
      · exact ⟨3, pre (Ev.pos c1 (Ev.neg c2 (Ev.now _))), fun h => absurd h (by decide), fun h => absurd (h.1 i (by omega)).2 c2⟩
    · exact ⟨3, pre (Ev.neg c1 (Ev.now _)), fun h => absurd h (by decide), fun h => absurd (h.1 i (by omega)).1 c1⟩
theorem good_of {n k l s : Int} {nx : List (List Int)} {ou : List (List (List Int))} (n1 : 1 ≤ n) (n7 : n ≤ 7) (k1 : 1 ≤ k) (k3 : k ≤ 3) (l1 : 1 ≤ l) (l3 : l ≤ 3) (hn : (nx.length : Int) = n) (ho : (ou.length : Int) = n) : ((∀ j : Nat, j < n.toNat → ((nx.getD j []).length : Int) = k ∧ ((ou.getD j []).length : Int) = k) ∧ (∀ w ∈ ou.flatten, w.length ≤ 4) ∧ (∀ x ∈ nx.flatten ++ [s], 0 ≤ x ∧ x < n) ∧ ∀ x ∈ ou.flatten.flatten, 0 ≤ x ∧ x < l) ↔ GoodT n k l nx ou s := by
  constructor
  · rintro ⟨h1, h2, h3, h4⟩
    have hs := h3 s (by simp)
    exact ⟨n1, n7, k1, k3, l1, l3, hn, ho, h1, fun r hr w hw => h2 w (List.mem_flatten.2 ⟨r, hr, hw⟩), fun r hr x hx => h3 x (List.mem_append_left _ (List.mem_flatten.2 ⟨r, hr, hx⟩)), hs.1, hs.2, fun r hr w hw x hx => h4 x (List.mem_flatten.2 ⟨w, List.mem_flatten.2 ⟨r, hr, hw⟩, hx⟩)⟩
  · intro g
    refine ⟨g.row, fun w hw => ?_, fun x hx => ?_, fun x hx => ?_⟩
    · obtain ⟨r, hr, hw⟩ := List.mem_flatten.1 hw
      exact g.small r hr w hw
    · rcases List.mem_append.1 hx with hx | hx
      · obtain ⟨r, hr, hx⟩ := List.mem_flatten.1 hx
        exact g.en r hr x hx
      · rw [List.mem_singleton] at hx
        rw [hx]
        exact ⟨g.s0, g.s1⟩
    · obtain ⟨w, hw, hx⟩ := List.mem_flatten.1 hx
      obtain ⟨r, hr, hw⟩ := List.mem_flatten.1 hw
      exact g.eo r hr w hw x hx
theorem tcheck_spec {n k l s : Int} {nx : List (List Int)} {ou : List (List (List Int))} : ∃ e, Ev (fun q => turner_Check.f q n k l nx ou s) e ∧ (e = 0 ↔ GoodT n k l nx ou s) := by
  have one : Ev (fun q => turner_Check.j0 q true n k l nx ou s) 1 := Ev.step (fun q => by rw [turner_Check.j0]) (Ev.pos rfl (Ev.now _))
  have three : Ev (fun q => turner_Check.j1 q true n k l nx ou s) 3 := Ev.step (fun q => by rw [turner_Check.j1]) (Ev.pos rfl (Ev.now _))
  have emn : mn k l < 1 ↔ k < 1 ∨ l < 1 := by unfold mn; split <;> omega
  have emx : mx k l > 3 ↔ k > 3 ∨ l > 3 := by unfold mx; split <;> omega
  by_cases a1 : n < 1
  · exact ⟨1, Ev.congr (fun q => by rw [turner_Check.f]) (Ev.pos a1 one), fun h => absurd h (by decide), fun h => by have := h.n1; omega⟩
  by_cases a2 : n > 7
  · exact ⟨1, Ev.congr (fun q => by rw [turner_Check.f]) (Ev.neg a1 (Ev.pos a2 one)), fun h => absurd h (by decide), fun h => by have := h.n7; omega⟩
  by_cases a3 : mn k l < 1
  · exact ⟨1, Ev.congr (fun q => by rw [turner_Check.f]) (Ev.neg a1 (Ev.neg a2 (Ev.pos a3 one))), fun h => absurd h (by decide), fun h => by have := h.k1; have := h.l1; have := emn.1 a3; omega⟩
  by_cases a4 : mx k l > 3
  · refine ⟨1, Ev.congr (fun q => by rw [turner_Check.f]) (Ev.neg a1 (Ev.neg a2 (Ev.neg a3 ?_))), fun h => absurd h (by decide), fun h => by have := h.k3; have := h.l3; have := emx.1 a4; omega⟩
    rw [decide_eq_true a4]
    exact one
  have pre : ∀ {t : Bool} {r : Int}, (nx.length : Int) = n ∧ t = ((ou.length : Int) != n) ∨ ¬ (nx.length : Int) = n ∧ t = true → Ev (fun q => turner_Check.j1 q t n k l nx ou s) r → Ev (fun q => turner_Check.f q n k l nx ou s) r := by
    intro t r ht h
    refine Ev.congr (fun q => by rw [turner_Check.f]) (Ev.neg a1 (Ev.neg a2 (Ev.neg a3 ?_)))
    rw [decide_eq_false a4]
    refine Ev.step (fun q => by rw [turner_Check.j0]) (Ev.neg (by decide) ?_)
    rcases ht with ⟨h1, h2⟩ | ⟨h1, h2⟩
    · refine Ev.pos h1 ?_
      rw [← h2]
      exact h
    · refine Ev.neg h1 ?_
      rw [← h2]
      exact h
  by_cases a5 : (nx.length : Int) = n
  · by_cases a6 : (ou.length : Int) = n
    · rw [emn] at a3
      rw [emx] at a4
      obtain ⟨e, he, hie⟩ := tcheck_l0 (n := n) (k := k) (l := l) (s := s) (nx := nx) (ou := ou) (by omega) (by omega) (by omega) (by omega) a5 a6 n.toNat 0 (by omega) (fun j hj => absurd hj (Nat.not_lt_zero _))
      refine ⟨e, pre (t := false) (.inl ⟨a5, by simp [a6]⟩) ?_, ?_⟩
      · refine Ev.step (fun q => by rw [turner_Check.j1]) ?_
        refine Ev.neg (by decide) ?_
        exact he
      rw [hie]
      exact good_of (by omega) (by omega) (by omega) (by omega) (by omega) (by omega) a5 a6
    · exact ⟨3, pre (t := true) (.inl ⟨a5, by simp [a6]⟩) three, fun h => absurd h (by decide), fun h => absurd h.lo a6⟩
  · exact ⟨3, pre (t := true) (.inr ⟨a5, rfl⟩) three, fun h => absurd h (by decide), fun h => absurd h.ln a5⟩
end Go.Proofs.Ytiiankjmeodjdaa.PTM
