/- Words on tables in plain Lean: what table.fill answers: a table closed under the rules, and the least one. Conditions: grammar and word are good. -/
import Derived.Test.YthgiiikjcfhgjaaPUPass
namespace Go.Proofs.Ythgiiikjcfhgjaa.PUM
set_option linter.unusedVariables false
set_option linter.unusedSimpArgs false
open Go.RowKit Go.Proofs.Ythgiiikjcfhgjaa.GU Go.Proofs.YthgiiikjcfhgjaaW.PrintWords Go.Proofs.YthgiiikjcfhgjaaW.PrintLast Go.Proofs.YthgiiikjcfhgjaaW.PrintMore

theorem fill_l2 {k n s : Int} {w : List Int} {rs : List S126} {T0 : List (List Int)} (g : GoodG k n s rs) (hw : w.length ≤ 12) : ∀ (d p : Nat) (T : List (List Int)) (b : Bool) (done : S126 → Nat → Prop), p + d = rs.length → Pass k n w rs T0 T b done →
    ∃ T' b', Pass k n w rs T0 T' b' (fun r' i' => done r' i' ∨ (∃ c, p ≤ c ∧ c < rs.length ∧ r' = rs.getD c z126 ∧ i' < w.length + 1)) ∧ ∀ res, Ev (fun q => table_fill.l1 q w T' b' k n s rs) res → Ev (fun q => table_fill.l2 q w T b rs (rs.length : Int) (p : Int) k n s rs) res := by
  have hlen := g.len
  intro d
  induction d with
  | zero =>
    intro p T b done hp P
    refine ⟨T, b, P.weaken (fun r' i' h => ?_), fun res hres => ?_⟩
    · rcases h with h | ⟨c, h2, h3, _⟩
      · exact h
      · omega
    · refine Ev.step (fun q => by rw [table_fill.l2]) ?_
      refine Ev.neg (by omega) ?_
      exact hres
  | succ d ih =>
    intro p T b done hp P
    have hlt : p < rs.length := by omega
    obtain ⟨T1, b1, P1, h1⟩ := fill_l3 g hw (getD_mem (d := z126) hlt) (rs.length : Int) (p : Int) (w.length + 1) 0 T b done (by omega) P
    obtain ⟨T', b', P2, h2⟩ := ih (p + 1) T1 b1 _ (by omega) P1
    refine ⟨T', b', P2.weaken (fun r' i' h => ?_), fun res hres => ?_⟩
    · rcases h with h | ⟨c, h3, h4, h5, h6⟩
      · exact .inl (.inl h)
      · rcases Nat.lt_or_ge p c with h7 | h7
        · exact .inr ⟨c, by omega, h4, h5, h6⟩
        · obtain rfl : c = p := by omega
          exact .inl (.inr ⟨h5, Nat.zero_le _, h6⟩)
    · refine Ev.step (fun q => by rw [table_fill.l2]) ?_
      refine Ev.pos (by omega) ?_
      refine Ev.pos (by omega) ?_
      refine Ev.pos (by omega) ?_
      rw [rdR_nat, w64 (n := (w.length : Int) + 1) (by omega) (by omega)]
      refine h1 res ?_
      rw [w64 (n := (p : Int) + 1) (by omega) (by omega)]
      exact h2 res hres
/-- A filled table. -/
structure Filled (k n : Int) (w : List Int) (rs : List S126) (T : List (List Int)) : Prop where
  tab : Tab n (w.length + 1) T
  sound : Sound k w rs T
  closed : ClosedR k w rs (famT T)
theorem fill_l1 {k n s : Int} {w : List Int} {rs : List S126} (g : GoodG k n s rs) (hw : w.length ≤ 12) : ∀ (d : Nat) (T : List (List Int)), 600001 ≤ pot T + d → Tab n (w.length + 1) T → Sound k w rs T →
    ∃ T', Filled k n w rs T' ∧ Ev (fun q => table_fill.l1 q w T true k n s rs) T' := by
  intro d
  induction d with
  | zero =>
    intro T hd ht hs
    have := pot_le ht g.n5 (by omega)
    omega
  | succ d ih =>
    intro T hd ht hs
    obtain ⟨T', b', P, h⟩ := fill_l2 g hw rs.length 0 T false (fun _ _ => False) (by omega) ⟨ht, hs, Int.le_refl _, .inl ⟨rfl, rfl, fun _ _ h => absurd h id⟩⟩
    have pre : ∀ {res}, Ev (fun q => table_fill.l1 q w T' b' k n s rs) res → Ev (fun q => table_fill.l1 q w T true k n s rs) res := by
      intro res hres
      refine Ev.step (fun q => by rw [table_fill.l1]) ?_
      refine Ev.pos rfl ?_
      exact h res hres
    rcases P.flag with ⟨hb, hT, hd2⟩ | ⟨hb, hT⟩
    · refine ⟨T', ⟨P.tab, P.sound, fun r hr i j hi hc => ?_⟩, pre ?_⟩
      · obtain ⟨c, hc2, rfl⟩ := List.getElem_of_mem hr
        have := hd2 rs[c] i (.inr ⟨c, Nat.zero_le _, hc2, by rw [List.getD_eq_getElem?_getD, List.getElem?_eq_getElem hc2, Option.getD_some], hi⟩)
        subst hT
        exact this j (endsE_one.2 hc)
      · refine Ev.step (fun q => by rw [table_fill.l1]) ?_
        refine Ev.neg (by rw [hb]; decide) ?_
        exact Ev.now _
    · subst hb
      obtain ⟨T2, F, h2⟩ := ih T' (by omega) P.tab P.sound
      exact ⟨T2, F, pre h2⟩
theorem fill_l0 {k n s : Int} {w : List Int} {rs : List S126} (hn : 0 ≤ n) (hn5 : n ≤ 5) (hw : w.length ≤ 12) {res : List (List Int)} : ∀ (d i : Nat) (T : List (List Int)), i + d = n.toNat → T.length = n.toNat → (∀ j, j < i → T.getD j [] = List.replicate (w.length + 1) 0) →
    Ev (fun q => table_fill.l1 q w (List.replicate n.toNat (List.replicate (w.length + 1) 0)) true k n s rs) res → Ev (fun q => table_fill.l0 q w T (n.toNat : Int) (i : Int) k n s rs) res := by
  intro d
  induction d with
  | zero =>
    intro i T hi hT hz hr
    have e : T = List.replicate n.toNat (List.replicate (w.length + 1) 0) := by
      apply List.ext_getElem
      · rw [List.length_replicate]; exact hT
      · intro j h1 h2
        have := hz j (by omega)
        rw [List.getD_eq_getElem?_getD, List.getElem?_eq_getElem h1, Option.getD_some] at this
        rw [this, List.getElem_replicate]
    refine Ev.step (fun q => by rw [table_fill.l0]) ?_
    refine Ev.neg (by omega) ?_
    rw [e]
    exact hr
  | succ d ih =>
    intro i T hi hT hz hr
    refine Ev.step (fun q => by rw [table_fill.l0]) ?_
    refine Ev.pos (by omega) ?_
    rw [w64 (n := (w.length : Int) + 1) (by omega) (by omega), w64 (n := (i : Int) + 1) (by omega) (by omega), show ((w.length : Int) + 1).toNat = w.length + 1 by omega, Int.toNat_natCast]
    refine Ev.pos (by omega) ?_
    refine Ev.pos (by omega) ?_
    refine Ev.pos (by omega) ?_
    refine Ev.pos (by omega) ?_
    refine ih (i + 1) _ (by omega) (by rw [List.length_set]; exact hT) (fun j hj => ?_) hr
    rw [getD_set (by omega)]
    by_cases c : j = i
    · rw [if_pos c]
    · rw [if_neg c]; exact hz j (by omega)
theorem fill_good {k n s : Int} {w : List Int} {rs : List S126} (g : GoodG k n s rs) (hw : w.length ≤ 12) : ∃ T, Filled k n w rs T ∧ Ev (fun q => table_fill.f q k n s rs w) T := by
  have hn1 := g.n1
  have hn5 := g.n5
  have ht : Tab n (w.length + 1) (List.replicate n.toNat (List.replicate (w.length + 1) 0)) := by
    refine ⟨by rw [List.length_replicate]; omega, fun l hl => ?_, fun l hl e he => ?_⟩
    · rw [List.eq_of_mem_replicate hl, List.length_replicate]
    · rw [List.eq_of_mem_replicate hl] at he
      rw [List.eq_of_mem_replicate he]
      exact ⟨Int.le_refl _, Nat.pow_pos (by omega)⟩
  have hz : ∀ x i, tb (List.replicate n.toNat (List.replicate (w.length + 1) (0 : Int))) x i = 0 := by
    intro x i
    unfold tb
    have h2 : ∀ l : List Int, (∀ e ∈ l, e = 0) → (l.getD i 0).toNat = 0 := by
      intro l hl
      rcases Nat.lt_or_ge i l.length with h | h
      · rw [hl _ (getD_mem h)]; rfl
      · rw [List.getD_eq_getElem?_getD, List.getElem?_eq_none (by omega)]; rfl
    apply h2
    intro e he
    rcases Nat.lt_or_ge x.toNat n.toNat with h | h
    · have hm : (List.replicate n.toNat (List.replicate (w.length + 1) (0 : Int))).getD x.toNat [] ∈ List.replicate n.toNat (List.replicate (w.length + 1) (0 : Int)) := getD_mem (by rw [List.length_replicate]; exact h)
      rw [List.eq_of_mem_replicate hm] at he
      exact List.eq_of_mem_replicate he
    · rw [List.getD_eq_getElem?_getD, List.getElem?_eq_none (by rw [List.length_replicate]; omega)] at he
      exact absurd he (by simp)
  have hs : Sound k w rs (List.replicate n.toNat (List.replicate (w.length + 1) 0)) := by
    intro R _ x i j _ hf
    unfold famT at hf
    rw [hz, Nat.zero_testBit] at hf
    exact absurd hf (by decide)
  have hp0 : 0 ≤ pot (List.replicate n.toNat (List.replicate (w.length + 1) (0 : Int))) := by
    have h1 : ∀ m : Nat, (List.replicate m (0 : Int)).sum = 0 := by
      intro m
      induction m with
      | zero => rfl
      | succ m ih => rw [List.replicate_succ, List.sum_cons, ih]; rfl
    unfold pot
    rw [List.map_replicate, h1, h1]
    exact Int.le_refl _
  obtain ⟨T, F, h⟩ := fill_l1 g hw 600001 _ (by omega) ht hs
  refine ⟨T, F, Ev.congr (fun q => by rw [table_fill.f]) ?_⟩
  refine Ev.pos (by omega) ?_
  refine Ev.pos (by omega) ?_
  refine Ev.let_ ?_
  rw [List.length_replicate]
  exact fill_l0 (by omega) hn5 hw n.toNat 0 _ (by omega) (by rw [List.length_replicate]) (fun j hj => absurd hj (Nat.not_lt_zero _)) h
end Go.Proofs.Ythgiiikjcfhgjaa.PUM
