/- The law GrammarMade, as plain Lean: what the rules' uses make of the grammar's own name, if it is a word, is taken. Conditions: none beyond the kinds of the arguments. -/
import Derived.Test.YtnkackiocigdoaaPDChain
import Derived.Test.YtnkackiocigdoaaPDEq
import Derived.Test.YtnkackiocigdoaaGD13
namespace Go.Proofs.Ytnkackiocigdoaa.Pure
set_option linter.unusedVariables false
set_option linter.unusedSimpArgs false
open Go.RowKit Go.Proofs.Ytnkackiocigdoaa.GD Go.Proofs.Ytnkackiocigdoaa.PDM Go.Proofs.YtnkackiocigdoaaW.PrintWords Go.Proofs.YtnkackiocigdoaaW.PrintLast Go.Proofs.YtnkackiocigdoaaW.PrintMore

/-- What a row makes, the grammar's own name makes. -/
def Inv (k n s : Int) (rs : List S27) (l : List Int) : Prop := ∀ (w : List Int) (T : List (List Int)), Filled k n w rs T → ChainR k w (famT T) l 0 w.length → famT T s 0 w.length
theorem step_bad {k n s : Int} {rs : List S27} (h : ¬ GoodG k n s rs) (l : List Int) (at_ ru : Int) : ∃ e, e ≠ 0 ∧ Ev (fun q => grammar_Step.f q k n s rs l at_ ru) ([], e) := by
  obtain ⟨e, he, hi⟩ := gcheck_spec (k := k) (n := n) (s := s) (rs := rs)
  have c : ¬ e = 0 := fun h2 => h (hi.1 h2)
  exact ⟨e, c, Ev.congr (fun q => by rw [grammar_Step.f]) (Ev.bind he (Ev.neg c (Ev.now _)))⟩
theorem step_good {k n s : Int} {rs : List S27} (g : GoodG k n s rs) (l : List Int) (hl : l.length ≤ 60) (at_ : Nat) (ha : at_ ≤ l.length) (ru : Int) : ∃ x e, Ev (fun q => grammar_Step.f q k n s rs l at_ ru) (x, e) ∧
    ((e ≠ 0 ∧ x = []) ∨ (e = 0 ∧ at_ < l.length ∧ 0 ≤ ru ∧ ru < (rs.length : Int) ∧ l.getD at_ 0 = k + (rs.getD ru.toNat z27).f0 ∧ x = l.take at_ ++ (rs.getD ru.toNat z27).f1 ++ l.drop (at_ + 1) ∧ x.length ≤ 60)) := by
  obtain ⟨e, he, hi⟩ := gcheck_spec (k := k) (n := n) (s := s) (rs := rs)
  obtain ⟨b, hb, hbi⟩ := signs_good (s := s) (rs := rs) g.k3 g.n5 g.k1 g.n1 l
  have hk1 := g.k1
  have hk3 := g.k3
  have hn5 := g.n5
  have hlen := g.len
  have pre : ∀ {r : List Int × Int}, Ev (fun q => (if b = true then (if (at_ : Int) < 0 then (grammar_Step.j0 q l at_ ru true k n s rs) else (if (at_ : Int) ≥ (l.length : Int) then (grammar_Step.j0 q l at_ ru true k n s rs) else (if ru < 0 then (grammar_Step.j0 q l at_ ru true k n s rs) else (grammar_Step.j0 q l at_ ru (decide (ru ≥ (rs.length : Int))) k n s rs)))) else (some (([] : List Int), 2)))) r → Ev (fun q => grammar_Step.f q k n s rs l at_ ru) r := by
    intro r h
    refine Ev.congr (fun q => by rw [grammar_Step.f]) ?_
    refine Ev.bind he ?_
    refine Ev.pos (hi.2 g) ?_
    refine Ev.neg (by omega) ?_
    exact Ev.bindc hb h
  have four : Ev (fun q => grammar_Step.j0 q l at_ ru true k n s rs) ([], 4) := Ev.step (fun q => by rw [grammar_Step.j0]) (Ev.pos rfl (Ev.now _))
  by_cases c1 : b = true
  · by_cases c2 : (at_ : Int) ≥ (l.length : Int)
    · exact ⟨[], 4, pre (Ev.pos c1 (Ev.neg (by omega) (Ev.pos c2 four))), .inl ⟨by decide, rfl⟩⟩
    · by_cases c3 : ru < 0
      · exact ⟨[], 4, pre (Ev.pos c1 (Ev.neg (by omega) (Ev.neg c2 (Ev.pos c3 four)))), .inl ⟨by decide, rfl⟩⟩
      · by_cases c4 : ru ≥ (rs.length : Int)
        · refine ⟨[], 4, pre (Ev.pos c1 (Ev.neg (by omega) (Ev.neg c2 (Ev.neg c3 ?_)))), .inl ⟨by decide, rfl⟩⟩
          rw [decide_eq_true c4]
          exact four
        · have hm : rs.getD ru.toNat z27 ∈ rs := getD_mem (by omega)
          have gr := g.rule _ hm
          have gs := g.small _ hm
          have h0 := gr.l0
          have h1 := gr.l1
          have e1 : rd_T27 rs ru = rs.getD ru.toNat z27 := by simp [rd_T27]
          have pre2 : ∀ {r : List Int × Int}, Ev (fun q => (if l.getD at_ 0 = k + (rs.getD ru.toNat z27).f0 then ((slices_Concat_int_int.f (([(l.take at_), (rs.getD ru.toNat z27).f1, (l.drop (at_ + 1))] : List (List Int)))).bind fun t184 => (if (t184.length : Int) > 60 then (some (([] : List Int), 1)) else (some (t184, 0)))) else (some (([] : List Int), 3)))) r → Ev (fun q => grammar_Step.f q k n s rs l at_ ru) r := by
            intro r h
            refine pre (Ev.pos c1 (Ev.neg (by omega) (Ev.neg c2 (Ev.neg c3 ?_))))
            rw [decide_eq_false c4]
            refine Ev.step (fun q => by rw [grammar_Step.j0]) ?_
            refine Ev.neg (by decide) ?_
            refine Ev.pos (by omega) ?_
            refine Ev.pos (by omega) ?_
            refine Ev.pos (by omega) ?_
            refine Ev.pos (by omega) ?_
            rw [e1, rd_nat, w64 (n := k + (rs.getD ru.toNat z27).f0) (by omega) (by omega), w64 (n := (at_ : Int) + 1) (by omega) (by omega), Int.toNat_natCast, show ((at_ : Int) + 1).toNat = at_ + 1 by omega]
            by_cases c5 : l.getD at_ 0 = k + (rs.getD ru.toNat z27).f0
            · refine Ev.pos c5 ?_
              refine Ev.pos (by omega) ?_
              refine Ev.pos (by omega) ?_
              refine Ev.pos (by omega) ?_
              have h2 := Ev.congr (fun _ => by rw [if_pos c5]) h
              exact h2
            · refine Ev.neg c5 ?_
              have h2 := Ev.congr (fun _ => by rw [if_neg c5]) h
              exact h2
          by_cases c5 : l.getD at_ 0 = k + (rs.getD ru.toNat z27).f0
          · have hf : (([(l.take at_), (rs.getD ru.toNat z27).f1, (l.drop (at_ + 1))] : List (List Int))).flatten = l.take at_ ++ (rs.getD ru.toNat z27).f1 ++ l.drop (at_ + 1) := by
              simp [List.append_assoc]
            have hfl : (l.take at_ ++ (rs.getD ru.toNat z27).f1 ++ l.drop (at_ + 1)).length ≤ 64 := by
              rw [List.length_append, List.length_append, List.length_take, List.length_drop]
              omega
            have hcc : slices_Concat_int_int.f (([(l.take at_), (rs.getD ru.toNat z27).f1, (l.drop (at_ + 1))] : List (List Int))) = some (l.take at_ ++ (rs.getD ru.toNat z27).f1 ++ l.drop (at_ + 1)) := by
              unfold slices_Concat_int_int.f
              rw [hf, if_pos ⟨by simp, by omega⟩]
            by_cases c6 : ((l.take at_ ++ (rs.getD ru.toNat z27).f1 ++ l.drop (at_ + 1)).length : Int) > 60
            · exact ⟨[], 1, pre2 (Ev.pos c5 (Ev.bindc hcc (Ev.pos c6 (Ev.now _)))), .inl ⟨by decide, rfl⟩⟩
            · exact ⟨_, 0, pre2 (Ev.pos c5 (Ev.bindc hcc (Ev.neg c6 (Ev.now _)))), .inr ⟨rfl, by omega, by omega, by omega, c5, rfl, by omega⟩⟩
          · exact ⟨[], 3, pre2 (Ev.neg c5 (Ev.now _)), .inl ⟨by decide, rfl⟩⟩
  · exact ⟨[], 2, pre (Ev.neg c1 (Ev.now _)), .inl ⟨by decide, rfl⟩⟩
theorem ref_step {k n s : Int} {rs : List S27} {l : List Int} (hl : l.length ≤ 60) {at_ : Nat} (ha : at_ < l.length) {ru : Int} (h0 : 0 ≤ ru) (h1 : ru < (rs.length : Int)) (hs : (rs.getD ru.toNat z27).f1.length ≤ 4) : coppicerref_Step.f k n s rs l at_ ru = some (l.take at_ ++ (rs.getD ru.toNat z27).f1 ++ l.drop (at_ + 1)) := by
  unfold coppicerref_Step.f
  have e1 : rd_T27 rs ru = rs.getD ru.toNat z27 := by simp [rd_T27]
  have e2 : (l.take at_).length ≤ 60 := by rw [List.length_take]; omega
  have e3 : (l.drop (at_ + 1)).length ≤ 60 := by rw [List.length_drop]; omega
  rw [e1, w64 (n := (at_ : Int) + 1) (by omega) (by omega), Int.toNat_natCast, show ((at_ : Int) + 1).toNat = at_ + 1 by omega, Option.bind_some, if_pos (by omega), if_pos (by omega), List.nil_append, if_pos (by rw [List.length_nil]; omega), Option.bind_some, if_pos h0, if_pos h1, if_pos (by omega), Option.bind_some, if_pos (by omega), if_pos (by omega), if_pos (by rw [List.length_append]; omega)]
theorem inside_one {m ru : Int} (h0 : 0 ≤ ru) (h1 : ru < m) : Ev (fun q => coppicerkeep_inside.f q m [ru]) true := by
  refine Ev.congr (fun q => by rw [coppicerkeep_inside.f]) ?_
  refine Ev.step (fun q => by rw [coppicerkeep_inside.l0]) ?_
  refine Ev.pos (show (0 : Int) < (1 : Int) by decide) ?_
  refine Ev.pos (by decide) ?_
  refine Ev.pos (show (0 : Int) < (1 : Int) by decide) ?_
  refine Ev.neg (show ¬ ru < 0 by omega) ?_
  refine Ev.neg (show ¬ ru ≥ m by omega) ?_
  refine Ev.step (fun q => by rw [coppicerkeep_inside.l0]) ?_
  refine Ev.neg (show ¬ wrap64 (0 + 1) < (1 : Int) by rw [w64 (by omega) (by omega)]; omega) ?_
  exact Ev.now _
theorem first {k n s : Int} {rs : List S27} {l : List Int} (hl : l.length ≤ 60) (ru : Int) (st : List Int) (L p : Int) : ∀ (d i : Nat), i + d = l.length → ∃ at_ : Nat, at_ ≤ l.length ∧ ∀ r, Ev (fun q => coppicerkeep_GrammarMade.j2 q l ru (at_ : Int) st L p k n s rs) r → Ev (fun q => coppicerkeep_GrammarMade.l1 q l ru (i : Int) st L p k n s rs) r := by
  intro d
  induction d with
  | zero =>
    intro i hi
    refine ⟨i, by omega, fun r h => Ev.step (fun q => by rw [coppicerkeep_GrammarMade.l1]) ?_⟩
    exact Ev.neg (by omega) h
  | succ d ih =>
    intro i hi
    by_cases c : rd l (i : Int) < k
    · obtain ⟨a, h1, h2⟩ := ih (i + 1) (by omega)
      refine ⟨a, h1, fun r h => Ev.step (fun q => by rw [coppicerkeep_GrammarMade.l1]) ?_⟩
      refine Ev.pos (by omega) ?_
      refine Ev.pos (by omega) ?_
      refine Ev.pos c ?_
      rw [w64 (n := (i : Int) + 1) (by omega) (by omega)]
      exact h2 r h
    · refine ⟨i, by omega, fun r h => Ev.step (fun q => by rw [coppicerkeep_GrammarMade.l1]) ?_⟩
      refine Ev.pos (by omega) ?_
      refine Ev.pos (by omega) ?_
      exact Ev.neg c h
theorem made_loop {k n s : Int} {rs : List S27} (g : GoodG k n s rs) (st : List Int) (hst : st.length ≤ 100000000000000) : ∀ (d p : Nat) (l : List Int), p + d = st.length → l.length ≤ 60 → Inv k n s rs l → Ev (fun q => coppicerkeep_GrammarMade.l0 q l st (st.length : Int) (p : Int) k n s rs) true := by
  intro d
  induction d with
  | zero =>
    intro p l hp hl inv
    obtain ⟨t, htb, hti⟩ := grown_spec (k := k) (n := n) (s := s) (rs := rs) l
    refine Ev.step (fun q => by rw [coppicerkeep_GrammarMade.l0]) ?_
    refine Ev.neg (by omega) ?_
    by_cases gw : GoodW k l
    · obtain ⟨T, b, F, hb, hT⟩ := takes_good g gw
      refine Ev.bind hT ?_
      refine Ev.bind htb ?_
      refine Ev.pos (hti.2 ⟨g, gw⟩) ?_
      refine Ev.pos rfl (Ev.val ?_)
      have := chain_word gw (famT T) l.length 0 (by omega)
      rw [List.drop_zero] at this
      have := hb.2 (inv l T F this)
      rw [this]
    · obtain ⟨b, e, he, hT⟩ := takes_bad (n := n) (s := s) (rs := rs) (fun h : GoodG k n s rs ∧ GoodW k l => gw h.2)
      refine Ev.bind hT ?_
      refine Ev.bind htb ?_
      refine Ev.neg (fun h => gw (hti.1 h).2) (Ev.val ?_)
      simpa using he
  | succ d ih =>
    intro p l hp hl inv
    obtain ⟨a, ha, h2⟩ := first (k := k) (n := n) (s := s) (rs := rs) hl (rd st (p : Int)) st (st.length : Int) (p : Int) l.length 0 (by omega)
    obtain ⟨x, e, hx, hc⟩ := step_good g l hl a ha (rd st (p : Int))
    obtain ⟨e2, he2, hi2⟩ := rcheck_spec (k := k) (n := n) (s := s) (rs := rs)
    refine Ev.step (fun q => by rw [coppicerkeep_GrammarMade.l0]) ?_
    refine Ev.pos (by omega) ?_
    refine Ev.pos (by omega) ?_
    refine Ev.pos (by omega) ?_
    refine h2 _ ?_
    generalize rd st (p : Int) = ru at hx hc
    refine Ev.step (fun q => by rw [coppicerkeep_GrammarMade.j2]) ?_
    refine Ev.bind hx ?_
    refine Ev.bind he2 ?_
    refine Ev.pos (hi2.2 g) ?_
    rcases hc with ⟨he, hx0⟩ | ⟨he, h3, h4, h5, h6, h7, h8⟩
    · refine Ev.neg he (Ev.val ?_)
      rw [hx0]
      rfl
    · have hm : rs.getD ru.toNat z27 ∈ rs := getD_mem (by omega)
      refine Ev.pos he ?_
      refine Ev.neg (by omega) ?_
      refine Ev.bind (inside_one h4 h5) ?_
      refine Ev.pos rfl ?_
      refine Ev.bindc (ref_step (k := k) (n := n) (s := s) hl h3 h4 h5 (g.small _ hm)) ?_
      refine Ev.bind (ints_spec _ _ (by show x.length ≤ 1000; omega)) ?_
      refine Ev.pos (by simpa using h7) ?_
      rw [w64 (n := (p : Int) + 1) (by omega) (by omega)]
      refine ih (p + 1) x (by omega) h8 (fun w T F hcx => inv w T F ?_)
      rw [h7] at hcx
      have h9 := chain_use g F.closed hm hcx
      rw [← h6, ← drop_cons h3 0, List.take_append_drop] at h9
      exact h9
theorem GrammarMade : coppicerkeep_GrammarMade.Pure := by
  intro k n s rs st _ _ _ wr wst
  refine Ev.rounds ?_
  refine Ev.congr (fun q => by rw [coppicerkeep_GrammarMade.f]) ?_
  by_cases g : GoodG k n s rs
  · have hk1 := g.k1
    have hk3 := g.k3
    have hn5 := g.n5
    have hs0 := g.s0
    have hs1 := g.s1
    rw [w64 (n := k + s) (by omega) (by omega)]
    refine made_loop g st (by omega) st.length 0 [k + s] (by omega) (by simp) ?_
    rintro w T F ⟨m, hs, h2⟩
    have h2 : m = w.length := h2
    subst h2
    rcases hs.2 with ⟨_, h3⟩ | ⟨h3, _⟩
    · rw [show k + s - k = s by omega] at h3
      exact h3
    · omega
  · refine Ev.step (fun q => by rw [coppicerkeep_GrammarMade.l0]) ?_
    by_cases c : (0 : Int) < (st.length : Int)
    · obtain ⟨a, ha, h2⟩ := first (k := k) (n := n) (s := s) (rs := rs) (l := [wrap64 (k + s)]) (by simp) (rd st 0) st (st.length : Int) 0 1 0 (by simp)
      obtain ⟨e2, he2, hi2⟩ := rcheck_spec (k := k) (n := n) (s := s) (rs := rs)
      obtain ⟨e, he, hx⟩ := step_bad g [wrap64 (k + s)] (a : Int) (rd st 0)
      refine Ev.pos c ?_
      refine Ev.pos (by omega) ?_
      refine Ev.pos c ?_
      refine h2 _ ?_
      refine Ev.step (fun q => by rw [coppicerkeep_GrammarMade.j2]) ?_
      refine Ev.bind hx ?_
      refine Ev.bind he2 ?_
      refine Ev.neg (fun h => g (hi2.1 h)) (Ev.val ?_)
      simpa using he
    · obtain ⟨b, e, he, hT⟩ := takes_bad (k := k) (n := n) (s := s) (rs := rs) (w := [wrap64 (k + s)]) (fun h => g h.1)
      obtain ⟨t, htb, hti⟩ := grown_spec (k := k) (n := n) (s := s) (rs := rs) [wrap64 (k + s)]
      refine Ev.neg c ?_
      refine Ev.bind hT ?_
      refine Ev.bind htb ?_
      refine Ev.neg (fun h => g (hti.1 h).1) (Ev.val ?_)
      simpa using he
end Go.Proofs.Ytnkackiocigdoaa.Pure
