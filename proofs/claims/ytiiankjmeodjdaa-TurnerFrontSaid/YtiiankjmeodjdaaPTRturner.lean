/- Words on turners in plain Lean: what the reference's check answers. Conditions: none. -/
import Derived.Test.YtiiankjmeodjdaaPTTurner
import Derived.Test.YtiiankjmeodjdaaGT5
namespace Go.Proofs.Ytiiankjmeodjdaa.PTM
set_option linter.unusedVariables false
set_option linter.unusedSimpArgs false
open Go.RowKit Go.Proofs.Ytiiankjmeodjdaa.GT Go.Proofs.YtiiankjmeodjdaaW.PrintWords Go.Proofs.YtiiankjmeodjdaaW.PrintLast Go.Proofs.YtiiankjmeodjdaaW.PrintMore

def offB (m : Int) (x : Int) : Bool := decide (x < 0) || decide (x ≥ m)
theorem offB_iff {m x : Int} : offB m x = false ↔ 0 ≤ x ∧ x < m := by
  unfold offB
  rw [Bool.or_eq_false_iff, decide_eq_false_iff_not, decide_eq_false_iff_not]
  omega
def rowOff (n l : Int) (nx : List (List Int)) (ou : List (List (List Int))) (i s : Nat) : Bool := offB n ((nx.getD i []).getD s 0) || ((ou.getD i []).getD s []).any (offB l)
theorem or_true' {a b c : Bool} (h : a = true) : ((a || b) || c) = true := by rw [h]; rfl
theorem rt_l5 {n k l st : Int} {nx : List (List Int)} {ou : List (List (List Int))} (x8 x9 : Int) (xs : List Int) (hx : xs.length ≤ 1000) {r : Int} : ∀ (d i : Nat) (b : Bool), i + d = xs.length → Ev (fun q => coppicerref_TurnerCheck.l4 q (b || (xs.drop i).any (offB l)) x8 (wrap64 (x9 + 1)) n k l nx ou st) r → Ev (fun q => coppicerref_TurnerCheck.l5 q b x8 x9 xs (xs.length : Int) (i : Int) n k l nx ou st) r := by
  intro d
  induction d with
  | zero =>
    intro i b hi hr
    rw [List.drop_eq_nil_of_le (by omega), List.any_nil, Bool.or_false] at hr
    exact Ev.step (fun q => by rw [coppicerref_TurnerCheck.l5]) (Ev.neg (by omega) hr)
  | succ d ih =>
    intro i b hi hr
    have hlt : i < xs.length := by omega
    rw [drop_cons hlt 0, List.any_cons, ← Bool.or_assoc] at hr
    have h2 := ih (i + 1) _ (by omega) hr
    refine Ev.step (fun q => by rw [coppicerref_TurnerCheck.l5]) (Ev.pos (by omega) (Ev.pos (by omega) (Ev.pos (by omega) ?_)))
    rw [rd_nat, w64 (n := (i : Int) + 1) (by omega) (by omega)]
    by_cases c : b = true
    · refine Ev.pos c ?_
      rw [c, Bool.true_or] at h2
      exact h2
    · refine Ev.neg c ?_
      rw [Bool.eq_false_iff.2 c, Bool.false_or] at h2
      unfold offB at h2
      by_cases c1 : xs.getD i 0 < 0
      · refine Ev.pos c1 ?_
        rw [decide_eq_true c1, Bool.true_or] at h2
        exact h2
      · refine Ev.neg c1 ?_
        rw [decide_eq_false c1, Bool.false_or] at h2
        exact h2
theorem rt_l4 {n k l st : Int} {nx : List (List Int)} {ou : List (List (List Int))} (k3 : k ≤ 3) (i : Nat) (hin : i < nx.length) (hio : i < ou.length) (hrn : ((nx.getD i []).length : Int) = k) (hro : ((ou.getD i []).length : Int) = k) (hsm : ∀ w ∈ ou.getD i [], w.length ≤ 4) {r : Int} : ∀ (d s : Nat) (b : Bool), (s : Int) + d = k → Ev (fun q => coppicerref_TurnerCheck.l3 q (b || (List.range' s d).any (rowOff n l nx ou i)) (wrap64 ((i : Int) + 1)) n k l nx ou st) r → Ev (fun q => coppicerref_TurnerCheck.l4 q b (i : Int) (s : Int) n k l nx ou st) r := by
  intro d
  induction d with
  | zero =>
    intro s b hs hr
    rw [List.range'_zero, List.any_nil, Bool.or_false] at hr
    exact Ev.step (fun q => by rw [coppicerref_TurnerCheck.l4]) (Ev.neg (by omega) hr)
  | succ d ih =>
    intro s b hs hr
    rw [List.range'_succ, List.any_cons, ← Bool.or_assoc] at hr
    have h2 := ih (s + 1) _ (by omega) hr
    have hm : (ou.getD i []).getD s [] ∈ ou.getD i [] := getD_mem (by omega)
    have hl := hsm _ hm
    have j8 : ∀ b' : Bool, (b' || ((ou.getD i []).getD s []).any (offB l)) = (b || rowOff n l nx ou i s) → Ev (fun q => coppicerref_TurnerCheck.j8 q b' (i : Int) (s : Int) n k l nx ou st) r := by
      intro b' hb
      refine Ev.step (fun q => by rw [coppicerref_TurnerCheck.j8]) ?_
      refine Ev.pos (by omega) (Ev.pos (by omega) (Ev.pos (by omega) ?_))
      rw [rdB_nat, rdA_nat]
      refine Ev.pos (by omega) ?_
      refine rt_l5 (i : Int) (s : Int) _ (by omega) ((ou.getD i []).getD s []).length 0 b' (by omega) ?_
      rw [List.drop_zero, hb, w64 (n := (s : Int) + 1) (by omega) (by omega)]
      exact h2
    refine Ev.step (fun q => by rw [coppicerref_TurnerCheck.l4]) (Ev.pos (by omega) ?_)
    by_cases c : b = true
    · refine Ev.pos c (j8 true ?_)
      rw [c]
      rfl
    · have cf := Bool.eq_false_iff.2 c
      refine Ev.neg c (Ev.pos (by omega) (Ev.pos (by omega) (Ev.pos (by omega) ?_)))
      rw [rdA_nat, rd_nat]
      refine Ev.pos (by omega) ?_
      by_cases c1 : (nx.getD i []).getD s 0 < 0
      · refine Ev.pos c1 (j8 true ?_)
        rw [cf]
        unfold rowOff offB
        rw [decide_eq_true c1]
        rfl
      · refine Ev.neg c1 (j8 _ ?_)
        rw [cf, Bool.false_or]
        unfold rowOff
        congr 1
        unfold offB
        rw [decide_eq_false c1, Bool.false_or]
theorem rt_l3 {n k l st : Int} {nx : List (List Int)} {ou : List (List (List Int))} (n1 : 1 ≤ n) (n7 : n ≤ 7) (k1 : 1 ≤ k) (k3 : k ≤ 3) (hn : (nx.length : Int) = n) (ho : (ou.length : Int) = n) (hrow : ∀ i : Nat, i < n.toNat → ((nx.getD i []).length : Int) = k ∧ ((ou.getD i []).length : Int) = k) (hsm : ∀ r ∈ ou, ∀ w ∈ r, w.length ≤ 4) : ∀ (d i : Nat) (b : Bool), i + d = n.toNat → Ev (fun q => coppicerref_TurnerCheck.l3 q b (i : Int) n k l nx ou st) (if (b || (List.range' i d).any (fun j => (List.range' 0 k.toNat).any (rowOff n l nx ou j))) = true then 2 else 0) := by
  intro d
  induction d with
  | zero =>
    intro i b hi
    rw [List.range'_zero, List.any_nil, Bool.or_false]
    refine Ev.step (fun q => by rw [coppicerref_TurnerCheck.l3]) (Ev.neg (by omega) ?_)
    by_cases c : b = true
    · exact Ev.eq (Ev.pos c (Ev.now 2)) (if_pos c).symm
    · exact Ev.eq (Ev.neg c (Ev.now 0)) (if_neg c).symm
  | succ d ih =>
    intro i b hi
    have h := hrow i (by omega)
    rw [List.range'_succ, List.any_cons, ← Bool.or_assoc]
    refine Ev.step (fun q => by rw [coppicerref_TurnerCheck.l3]) (Ev.pos (by omega) ?_)
    refine rt_l4 k3 i (by omega) (by omega) h.1 h.2 (hsm _ (getD_mem (by omega))) k.toNat 0 b (by omega) ?_
    rw [w64 (n := (i : Int) + 1) (by omega) (by omega)]
    exact ih (i + 1) _ (by omega)
theorem rt_l2 {n k l st : Int} {nx : List (List Int)} {ou : List (List (List Int))} (x4 : Int) (xs : List (List Int)) (hx : xs.length ≤ 1000) : ∀ (d i : Nat), i + d = xs.length → (∃ w ∈ xs.drop i, ¬ w.length ≤ 4) ∧ Ev (fun q => coppicerref_TurnerCheck.l2 q x4 xs (xs.length : Int) (i : Int) n k l nx ou st) 1 ∨ (∀ w ∈ xs.drop i, w.length ≤ 4) ∧ ∀ r, Ev (fun q => coppicerref_TurnerCheck.l1 q (wrap64 (x4 + 1)) n k l nx ou st) r → Ev (fun q => coppicerref_TurnerCheck.l2 q x4 xs (xs.length : Int) (i : Int) n k l nx ou st) r := by
  intro d
  induction d with
  | zero =>
    intro i hi
    rw [List.drop_eq_nil_of_le (by omega)]
    exact .inr ⟨fun w hw => absurd hw (by simp), fun r h => Ev.step (fun q => by rw [coppicerref_TurnerCheck.l2]) (Ev.neg (by omega) h)⟩
  | succ d ih =>
    intro i hi
    have hlt : i < xs.length := by omega
    rw [drop_cons hlt []]
    have pre : ∀ {r : Int}, Ev (fun q => if ((xs.getD i []).length : Int) > 4 then some 1 else coppicerref_TurnerCheck.l2 q x4 xs (xs.length : Int) ((i + 1 : Nat) : Int) n k l nx ou st) r → Ev (fun q => coppicerref_TurnerCheck.l2 q x4 xs (xs.length : Int) (i : Int) n k l nx ou st) r := by
      intro r h
      refine Ev.step (fun q => by rw [coppicerref_TurnerCheck.l2]) (Ev.pos (by omega) (Ev.pos (by omega) (Ev.pos (by omega) ?_)))
      rw [rdA_nat, w64 (n := (i : Int) + 1) (by omega) (by omega)]
      exact h
    by_cases c : ((xs.getD i []).length : Int) > 4
    · exact .inl ⟨⟨_, List.mem_cons_self, by omega⟩, pre (Ev.pos c (Ev.now _))⟩
    · rcases ih (i + 1) (by omega) with ⟨⟨w, hw, h1⟩, h2⟩ | ⟨h1, h2⟩
      · exact .inl ⟨⟨w, List.mem_cons_of_mem _ hw, h1⟩, pre (Ev.neg c h2)⟩
      · refine .inr ⟨fun w hw => ?_, fun r h => pre (Ev.neg c (h2 r h))⟩
        rcases List.mem_cons.1 hw with rfl | hw
        · omega
        · exact h1 w hw
theorem rt_l1 {n k l st : Int} {nx : List (List Int)} {ou : List (List (List Int))} (n1 : 1 ≤ n) (n7 : n ≤ 7) (k1 : 1 ≤ k) (k3 : k ≤ 3) (l1 : 1 ≤ l) (l3 : l ≤ 3) (hn : (nx.length : Int) = n) (ho : (ou.length : Int) = n) (hrow : ∀ i : Nat, i < n.toNat → ((nx.getD i []).length : Int) = k ∧ ((ou.getD i []).length : Int) = k) : ∀ (d i : Nat), i + d = n.toNat → (∀ j : Nat, j < i → ∀ w ∈ ou.getD j [], w.length ≤ 4) → ∃ e, Ev (fun q => coppicerref_TurnerCheck.l1 q (i : Int) n k l nx ou st) e ∧ (e = 0 ↔ GoodT n k l nx ou st) := by
  intro d
  induction d with
  | zero =>
    intro i hi hsm
    have hsm2 : ∀ r ∈ ou, ∀ w ∈ r, w.length ≤ 4 := by
      intro r hr
      obtain ⟨j, hj, rfl⟩ := List.getElem_of_mem hr
      have := hsm j (by omega)
      rwa [List.getD_eq_getElem?_getD, List.getElem?_eq_getElem hj, Option.getD_some] at this
    have h5 : ∀ b : Bool, Ev (fun q => coppicerref_TurnerCheck.j5 q b n k l nx ou st) (if (b || (List.range' 0 n.toNat).any (fun j => (List.range' 0 k.toNat).any (rowOff n l nx ou j))) = true then 2 else 0) := fun b => by
      refine Ev.step (fun q => by rw [coppicerref_TurnerCheck.j5]) ?_
      exact rt_l3 n1 n7 k1 k3 hn ho hrow hsm2 n.toNat 0 b (by omega)
    have hE : Ev (fun q => coppicerref_TurnerCheck.l1 q (i : Int) n k l nx ou st) (if (offB n st || (List.range' 0 n.toNat).any (fun j => (List.range' 0 k.toNat).any (rowOff n l nx ou j))) = true then 2 else 0) := by
      refine Ev.step (fun q => by rw [coppicerref_TurnerCheck.l1]) (Ev.neg (by omega) ?_)
      unfold offB
      by_cases c : st < 0
      · rw [decide_eq_true c, Bool.true_or]
        exact Ev.pos c (h5 true)
      · rw [decide_eq_false c, Bool.false_or]
        exact Ev.neg c (h5 _)
    refine ⟨_, hE, ?_⟩
    by_cases c : (offB n st || (List.range' 0 n.toNat).any (fun j => (List.range' 0 k.toNat).any (rowOff n l nx ou j))) = true
    · rw [if_pos c]
      refine ⟨fun h => absurd h (by decide), fun g => ?_⟩
      rw [Bool.or_eq_true] at c
      rcases c with c | c
      · rw [offB_iff.2 ⟨g.s0, g.s1⟩] at c
        exact absurd c (by decide)
      · rw [List.any_eq_true] at c
        obtain ⟨j, hj, c⟩ := c
        rw [List.any_eq_true] at c
        obtain ⟨s, hs, c⟩ := c
        rw [List.mem_range'_1] at hj hs
        have hr := hrow j (by omega)
        have m1 : nx.getD j [] ∈ nx := getD_mem (by omega)
        have m2 : ou.getD j [] ∈ ou := getD_mem (by omega)
        have m3 : (nx.getD j []).getD s 0 ∈ nx.getD j [] := getD_mem (by omega)
        have m4 : (ou.getD j []).getD s [] ∈ ou.getD j [] := getD_mem (by omega)
        unfold rowOff at c
        rw [offB_iff.2 (g.en _ m1 _ m3), Bool.false_or, List.any_eq_true] at c
        obtain ⟨x, hx, c⟩ := c
        rw [offB_iff.2 (g.eo _ m2 _ m4 x hx)] at c
        exact absurd c (by decide)
    · rw [if_neg c]
      refine ⟨fun _ => ?_, fun _ => rfl⟩
      rw [Bool.not_eq_true, Bool.or_eq_false_iff] at c
      obtain ⟨c1, c2⟩ := c
      rw [List.any_eq_false] at c2
      have key : ∀ j s : Nat, j < n.toNat → s < k.toNat → rowOff n l nx ou j s = false := by
        intro j s hj hs
        have := c2 j (List.mem_range'_1.2 ⟨Nat.zero_le _, by omega⟩)
        rw [Bool.not_eq_true, List.any_eq_false] at this
        exact Bool.eq_false_iff.2 (this s (List.mem_range'_1.2 ⟨Nat.zero_le _, by omega⟩))
      have c3 := offB_iff.1 c1
      refine ⟨n1, n7, k1, k3, l1, l3, hn, ho, hrow, hsm2, fun r hr x hx => ?_, c3.1, c3.2, fun r hr w hw x hx => ?_⟩
      · obtain ⟨j, hj, rfl⟩ := List.getElem_of_mem hr
        obtain ⟨s, hs, rfl⟩ := List.getElem_of_mem hx
        have hr2 := (hrow j (by omega)).1
        have e1 : nx.getD j [] = nx[j] := by rw [List.getD_eq_getElem?_getD, List.getElem?_eq_getElem hj, Option.getD_some]
        rw [e1] at hr2
        have h2 := key j s (by omega) (by omega)
        unfold rowOff at h2
        rw [Bool.or_eq_false_iff, e1] at h2
        have e2 : nx[j].getD s 0 = nx[j][s] := by rw [List.getD_eq_getElem?_getD, List.getElem?_eq_getElem hs, Option.getD_some]
        have h3 := h2.1
        rw [e2] at h3
        exact offB_iff.1 h3
      · obtain ⟨j, hj, rfl⟩ := List.getElem_of_mem hr
        obtain ⟨s, hs, rfl⟩ := List.getElem_of_mem hw
        have hr2 := (hrow j (by omega)).2
        have e1 : ou.getD j [] = ou[j] := by rw [List.getD_eq_getElem?_getD, List.getElem?_eq_getElem hj, Option.getD_some]
        rw [e1] at hr2
        have h2 := key j s (by omega) (by omega)
        unfold rowOff at h2
        rw [Bool.or_eq_false_iff, e1] at h2
        have e2 : ou[j].getD s [] = ou[j][s] := by rw [List.getD_eq_getElem?_getD, List.getElem?_eq_getElem hs, Option.getD_some]
        have h3 := h2.2
        rw [e2, List.any_eq_false] at h3
        exact offB_iff.1 (Bool.eq_false_iff.2 (h3 x hx))
  | succ d ih =>
    intro i hi hsm
    have hr := hrow i (by omega)
    have hm : ou.getD i [] ∈ ou := getD_mem (by omega)
    rcases rt_l2 (n := n) (k := k) (l := l) (st := st) (nx := nx) (ou := ou) (i : Int) (ou.getD i []) (by omega) (ou.getD i []).length 0 (by omega) with ⟨⟨w, hw, h1⟩, h2⟩ | ⟨h1, h2⟩
    · rw [List.drop_zero] at hw
      refine ⟨1, Ev.step (fun q => by rw [coppicerref_TurnerCheck.l1]) (Ev.pos (by omega) (Ev.pos (by omega) (Ev.pos (by omega) ?_))), fun h => absurd h (by decide), fun g => absurd (g.small _ hm w hw) h1⟩
      rw [rdB_nat]
      exact h2
    · rw [List.drop_zero] at h1
      obtain ⟨e, he, hie⟩ := ih (i + 1) (by omega) (fun j hj => by
        by_cases c : j = i
        · rw [c]; exact h1
        · exact hsm j (by omega))
      refine ⟨e, Ev.step (fun q => by rw [coppicerref_TurnerCheck.l1]) (Ev.pos (by omega) (Ev.pos (by omega) (Ev.pos (by omega) ?_))), hie⟩
      rw [rdB_nat]
      refine h2 e ?_
      rw [w64 (n := (i : Int) + 1) (by omega) (by omega)]
      exact he
theorem rt_l0 {n k l st : Int} {nx : List (List Int)} {ou : List (List (List Int))} (n1 : 1 ≤ n) (n7 : n ≤ 7) (k1 : 1 ≤ k) (k3 : k ≤ 3) (l1 : 1 ≤ l) (l3 : l ≤ 3) (hn : (nx.length : Int) = n) (ho : (ou.length : Int) = n) : ∀ (d i : Nat), i + d = n.toNat → (∀ j : Nat, j < i → ((nx.getD j []).length : Int) = k ∧ ((ou.getD j []).length : Int) = k) → ∃ e, Ev (fun q => coppicerref_TurnerCheck.l0 q (i : Int) n k l nx ou st) e ∧ (e = 0 ↔ GoodT n k l nx ou st) := by
  intro d
  induction d with
  | zero =>
    intro i hi hg
    obtain ⟨e, he, hie⟩ := rt_l1 (l := l) (st := st) n1 n7 k1 k3 l1 l3 hn ho (fun j hj => hg j (by omega)) n.toNat 0 (by omega) (fun j hj => absurd hj (Nat.not_lt_zero _))
    refine ⟨e, ?_, hie⟩
    refine Ev.step (fun q => by rw [coppicerref_TurnerCheck.l0]) ?_
    refine Ev.neg (by omega) ?_
    exact he
  | succ d ih =>
    intro i hi hg
    have pre : ∀ {r : Int}, Ev (fun q => if ((nx.getD i []).length : Int) = k then (if ((ou.getD i []).length : Int) = k then coppicerref_TurnerCheck.l0 q ((i + 1 : Nat) : Int) n k l nx ou st else some 3) else some 3) r → Ev (fun q => coppicerref_TurnerCheck.l0 q (i : Int) n k l nx ou st) r := by
      intro r h
      refine Ev.step (fun q => by rw [coppicerref_TurnerCheck.l0]) ?_
      refine Ev.pos (by omega) (Ev.pos (by omega) (Ev.pos (by omega) ?_))
      rw [rdA_nat, rdB_nat, w64 (n := (i : Int) + 1) (by omega) (by omega)]
      by_cases c : ((nx.getD i []).length : Int) = k
      · refine Ev.pos c (Ev.pos (by omega) ?_)
        exact Ev.congr (fun _ => by rw [if_pos c]; rfl) h
      · refine Ev.neg c ?_
        exact Ev.congr (fun _ => by rw [if_neg c]) h
    by_cases c1 : ((nx.getD i []).length : Int) = k
    · by_cases c2 : ((ou.getD i []).length : Int) = k
      · obtain ⟨e, he, hie⟩ := ih (i + 1) (by omega) (fun j hj => by
          by_cases c : j = i
          · rw [c]; exact ⟨c1, c2⟩
          · exact hg j (by omega))
        exact ⟨e, pre (Ev.pos c1 (Ev.pos c2 he)), hie⟩
      · exact ⟨3, pre (Ev.pos c1 (Ev.neg c2 (Ev.now _))), fun h => absurd h (by decide), fun h => absurd (h.row i (by omega)).2 c2⟩
    · exact ⟨3, pre (Ev.neg c1 (Ev.now _)), fun h => absurd h (by decide), fun h => absurd (h.row i (by omega)).1 c1⟩
theorem rturner_spec {n k l s : Int} {nx : List (List Int)} {ou : List (List (List Int))} : ∃ e, Ev (fun q => coppicerref_TurnerCheck.f q n k l nx ou s) e ∧ (e = 0 ↔ GoodT n k l nx ou s) := by
  have one : Ev (fun q => coppicerref_TurnerCheck.j0 q true n k l nx ou s) 1 := Ev.step (fun q => by rw [coppicerref_TurnerCheck.j0]) (Ev.pos rfl (Ev.now _))
  have three : Ev (fun q => coppicerref_TurnerCheck.j1 q true n k l nx ou s) 3 := Ev.step (fun q => by rw [coppicerref_TurnerCheck.j1]) (Ev.pos rfl (Ev.now _))
  by_cases a1 : n < 1
  · exact ⟨1, Ev.congr (fun q => by rw [coppicerref_TurnerCheck.f]) (Ev.pos a1 one), fun h => absurd h (by decide), fun h => by have := h.n1; omega⟩
  by_cases a2 : n > 7
  · exact ⟨1, Ev.congr (fun q => by rw [coppicerref_TurnerCheck.f]) (Ev.neg a1 (Ev.pos a2 one)), fun h => absurd h (by decide), fun h => by have := h.n7; omega⟩
  by_cases a3 : k < 1
  · exact ⟨1, Ev.congr (fun q => by rw [coppicerref_TurnerCheck.f]) (Ev.neg a1 (Ev.neg a2 (Ev.pos a3 one))), fun h => absurd h (by decide), fun h => by have := h.k1; omega⟩
  by_cases a4 : k > 3
  · exact ⟨1, Ev.congr (fun q => by rw [coppicerref_TurnerCheck.f]) (Ev.neg a1 (Ev.neg a2 (Ev.neg a3 (Ev.pos a4 one)))), fun h => absurd h (by decide), fun h => by have := h.k3; omega⟩
  by_cases a5 : l < 1
  · exact ⟨1, Ev.congr (fun q => by rw [coppicerref_TurnerCheck.f]) (Ev.neg a1 (Ev.neg a2 (Ev.neg a3 (Ev.neg a4 (Ev.pos a5 one))))), fun h => absurd h (by decide), fun h => by have := h.l1; omega⟩
  by_cases a6 : l > 3
  · refine ⟨1, Ev.congr (fun q => by rw [coppicerref_TurnerCheck.f]) (Ev.neg a1 (Ev.neg a2 (Ev.neg a3 (Ev.neg a4 (Ev.neg a5 ?_))))), fun h => absurd h (by decide), fun h => by have := h.l3; omega⟩
    rw [decide_eq_true a6]
    exact one
  have pre : ∀ {t : Bool} {r : Int}, (nx.length : Int) = n ∧ t = ((ou.length : Int) != n) ∨ ¬ (nx.length : Int) = n ∧ t = true → Ev (fun q => coppicerref_TurnerCheck.j1 q t n k l nx ou s) r → Ev (fun q => coppicerref_TurnerCheck.f q n k l nx ou s) r := by
    intro t r ht h
    refine Ev.congr (fun q => by rw [coppicerref_TurnerCheck.f]) (Ev.neg a1 (Ev.neg a2 (Ev.neg a3 (Ev.neg a4 (Ev.neg a5 ?_)))))
    rw [decide_eq_false a6]
    refine Ev.step (fun q => by rw [coppicerref_TurnerCheck.j0]) (Ev.neg (by decide) ?_)
    rcases ht with ⟨h1, h2⟩ | ⟨h1, h2⟩
    · refine Ev.pos h1 ?_
      rw [← h2]
      exact h
    · refine Ev.neg h1 ?_
      rw [← h2]
      exact h
  by_cases a7 : (nx.length : Int) = n
  · by_cases a8 : (ou.length : Int) = n
    · obtain ⟨e, he, hie⟩ := rt_l0 (n := n) (k := k) (l := l) (st := s) (nx := nx) (ou := ou) (by omega) (by omega) (by omega) (by omega) (by omega) (by omega) a7 a8 n.toNat 0 (by omega) (fun j hj => absurd hj (Nat.not_lt_zero _))
      refine ⟨e, pre (t := false) (.inl ⟨a7, by simp [a8]⟩) ?_, hie⟩
      refine Ev.step (fun q => by rw [coppicerref_TurnerCheck.j1]) ?_
      refine Ev.neg (by decide) ?_
      exact he
    · exact ⟨3, pre (t := true) (.inl ⟨a7, by simp [a8]⟩) three, fun h => absurd h (by decide), fun h => absurd h.lo a8⟩
  · exact ⟨3, pre (t := true) (.inr ⟨a7, rfl⟩) three, fun h => absurd h (by decide), fun h => absurd h.ln a7⟩
end Go.Proofs.Ytiiankjmeodjdaa.PTM
