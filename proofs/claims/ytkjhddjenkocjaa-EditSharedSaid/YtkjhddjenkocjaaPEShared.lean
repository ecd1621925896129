/- Common parts of two words, as plain Lean: what edit.Shared and edit.Inside answer. -/
import Derived.Test.YtkjhddjenkocjaaPEEdit
import Derived.Test.YtkjhddjenkocjaaGE2
import Derived.Test.YtkjhddjenkocjaaGE3
namespace Go.Proofs.Ytkjhddjenkocjaa.PureL
set_option linter.unusedVariables false
set_option linter.unusedSimpArgs false
open Go.RowKit Go.Proofs.Ytkjhddjenkocjaa.GE Go.Proofs.YtkjhddjenkocjaaW.PrintWords Go.Proofs.YtkjhddjenkocjaaW.PrintLast

theorem rdL_nat (xs : List (List Int)) (i : Nat) : rd_L1 xs (i : Int) = xs.getD i [] := by simp [rd_L1]
theorem drop_cons {l : List Int} {i : Nat} (h : i < l.length) : l.drop i = l.getD i 0 :: l.drop (i + 1) := by
  rw [List.drop_eq_getElem_cons h, List.getD_eq_getElem?_getD, List.getElem?_eq_getElem h, Option.getD_some]
theorem better_spec (a b : List Int) : ∃ t, edit_Shared_1.f a b = some t ∧ (t = true → b.length ≤ a.length) ∧ (t = false → a.length ≤ b.length) := by
  unfold edit_Shared_1.f
  by_cases c : (a.length : Int) > (b.length : Int)
  · rw [if_pos c]
    exact ⟨true, rfl, fun _ => by omega, (fun h => by cases h)⟩
  · rw [if_neg c]
    by_cases c2 : (a.length : Int) = (b.length : Int)
    · rw [if_pos c2]
      exact ⟨_, rfl, fun _ => by omega, fun _ => by omega⟩
    · rw [if_neg c2]
      exact ⟨false, rfl, (fun h => by cases h), fun _ => by omega⟩
/-- s is a longest common part of what u has from i on and v from j on. -/
structure Best (U V s : List Int) : Prop where
  l : s.Sublist U
  r : s.Sublist V
  m : ∀ x : List Int, x.Sublist U → x.Sublist V → x.length ≤ s.length
theorem best_nil_l (V : List Int) : Best [] V [] := ⟨List.Sublist.slnil, List.nil_sublist _, fun x h _ => by rw [List.sublist_nil.1 h]; exact Nat.le_refl _⟩
theorem best_nil_r (U : List Int) : Best U [] [] := ⟨List.nil_sublist _, List.Sublist.slnil, fun x _ h => by rw [List.sublist_nil.1 h]; exact Nat.le_refl _⟩
theorem heads {a b : Int} {U V x : List Int} (hu : x.Sublist (a :: U)) (hv : x.Sublist (b :: V)) : (x.Sublist U ∧ x.Sublist (b :: V)) ∨ (x.Sublist (a :: U) ∧ x.Sublist V) ∨ (a = b ∧ ∃ y, x = a :: y ∧ y.Sublist U ∧ y.Sublist V) := by
  rcases List.sublist_cons_iff.1 hu with h | ⟨y, h1, h2⟩
  · exact .inl ⟨h, hv⟩
  · rcases List.sublist_cons_iff.1 hv with h | ⟨z, h3, h4⟩
    · exact .inr (.inl ⟨hu, h⟩)
    · rw [h1] at h3
      injection h3 with e1 e2
      subst e2
      exact .inr (.inr ⟨e1, y, h1, h2, h4⟩)
/-- The longer of two. -/
theorem best_step {a b : Int} {U V p q c d : List Int} (hp : Best U (b :: V) p) (hq : Best (a :: U) V q) (hd : Best U V d) (hc : c = p ∨ c = q) (h1 : p.length ≤ c.length) (h2 : q.length ≤ c.length) :
    (a ≠ b → Best (a :: U) (b :: V) c) ∧ (a = b → (d.length + 1 ≤ c.length → Best (a :: U) (b :: V) c) ∧ (c.length ≤ d.length + 1 → Best (a :: U) (b :: V) (a :: d))) := by
  have cl : c.Sublist (a :: U) := by
    rcases hc with e | e
    · rw [e]; exact hp.l.cons a
    · rw [e]; exact hq.l
  have cr : c.Sublist (b :: V) := by
    rcases hc with e | e
    · rw [e]; exact hp.r
    · rw [e]; exact hq.r.cons b
  refine ⟨fun hn => ⟨cl, cr, fun x hx hy => ?_⟩, fun he => ⟨fun hl => ⟨cl, cr, fun x hx hy => ?_⟩, fun hl => ⟨hd.l.cons_cons a, by subst he; exact hd.r.cons_cons a, fun x hx hy => ?_⟩⟩⟩
  · rcases heads hx hy with ⟨g1, g2⟩ | ⟨g1, g2⟩ | ⟨g, _⟩
    · exact Nat.le_trans (hp.m x g1 g2) h1
    · exact Nat.le_trans (hq.m x g1 g2) h2
    · exact absurd g hn
  · rcases heads hx hy with ⟨g1, g2⟩ | ⟨g1, g2⟩ | ⟨_, y, g1, g2, g3⟩
    · exact Nat.le_trans (hp.m x g1 g2) h1
    · exact Nat.le_trans (hq.m x g1 g2) h2
    · have := hd.m y g2 g3
      rw [g1, List.length_cons]
      omega
  · rw [List.length_cons]
    rcases heads hx hy with ⟨g1, g2⟩ | ⟨g1, g2⟩ | ⟨_, y, g1, g2, g3⟩
    · have := hp.m x g1 g2; omega
    · have := hq.m x g1 g2; omega
    · have := hd.m y g2 g3
      rw [g1, List.length_cons]
      omega
theorem getD_setL (xs : List (List Int)) (n t : Nat) (a : List Int) (h : n < xs.length) : (xs.set n a).getD t [] = if t = n then a else xs.getD t [] := by
  rw [List.getD_eq_getElem?_getD, List.getD_eq_getElem?_getD, List.getElem?_set]
  by_cases e : n = t
  · subst e; simp [h]
  · rw [if_neg e, if_neg (Ne.symm e)]
/-- A walk that comes to the row of i. -/
def Leads (u v : List Int) (i : Nat) (f : Nat → Option (List Int × Int)) : Prop := ∃ now : List (List Int), (now.length = v.length + 1 ∧ ∀ t, t ≤ v.length → Best (u.drop i) (v.drop t) (now.getD t [])) ∧ ∀ R, Ev (fun k => edit_Shared.l0 k u v now ((i : Int) - 1)) R → Ev f R
theorem Leads.of {u v : List Int} {i : Nat} {f g : Nat → Option (List Int × Int)} (h : Leads u v i g) (hg : ∀ R, Ev g R → Ev f R) : Leads u v i f := by
  obtain ⟨now, h1, h2⟩ := h
  exact ⟨now, h1, fun R hR => hg R (h2 R hR)⟩
section
variable {u v : List Int} (hu : u.length ≤ 60) (hv : v.length ≤ 60)
include hu hv
theorem shared_l1 (below : List (List Int)) (i : Nat) (hi : i < u.length) (hb : below.length = v.length + 1) (hB : ∀ t, t ≤ v.length → Best (u.drop (i + 1)) (v.drop t) (below.getD t [])) :
    ∀ (j : Nat) (now : List (List Int)), j ≤ v.length → now.length = v.length + 1 → (∀ t, j ≤ t → t ≤ v.length → Best (u.drop i) (v.drop t) (now.getD t [])) → Leads u v i (fun k => edit_Shared.l1 k u v below (i : Int) now ((j : Int) - 1)) := by
  intro j
  induction j with
  | zero =>
    intro now _ hn hN
    refine ⟨now, ⟨hn, fun t ht => hN t (Nat.zero_le _) ht⟩, fun R hR => ?_⟩
    refine Ev.step (fun k => by rw [edit_Shared.l1]) (Ev.neg (by omega) ?_)
    rw [w64 (by omega) (by omega)]
    exact hR
  | succ j ih =>
    intro now hj hn hN
    have hu2 := drop_cons (l := u) hi
    have hv2 := drop_cons (l := v) (i := j) (by omega)
    have hp := hB j (by omega)
    have hq := hN (j + 1) (Nat.le_refl _) hj
    have hd := hB (j + 1) hj
    rw [hv2] at hp
    rw [hu2] at hq
    have post : ∀ (c : List Int) (nw : List (List Int)), nw = now.set j c → (c = below.getD j [] ∨ c = now.getD (j + 1) []) → (below.getD j []).length ≤ c.length → (now.getD (j + 1) []).length ≤ c.length → Leads u v i (fun k => edit_Shared.j3 k u v below (i : Int) nw (j : Int)) := by
      intro c nw e hc h1 h2
      obtain ⟨b1, b2⟩ := best_step hp hq hd hc h1 h2
      have nl : nw.length = v.length + 1 := by rw [e, List.length_set]; exact hn
      have ng : ∀ t, nw.getD t [] = if t = j then c else now.getD t [] := fun t => by rw [e]; exact getD_setL _ _ _ _ (by omega)
      have last : ∀ (x : List Int) (nx : List (List Int)), nx.length = v.length + 1 → (∀ t, nx.getD t [] = if t = j then x else now.getD t []) → Best (u.drop i) (v.drop j) x → Leads u v i (fun k => edit_Shared.l1 k u v below (i : Int) nx (wrap64 ((j : Int) - 1))) := by
        intro x nx l1 l2 l3
        rw [w64 (by omega) (by omega)]
        refine ih nx (by omega) l1 (fun t t1 t2 => ?_)
        rw [l2]
        by_cases e : t = j
        · rw [if_pos e, e]; exact l3
        · rw [if_neg e]; exact hN t (by omega) t2
      have pre : ∀ {g : Nat → Option (List Int × Int)}, Leads u v i g → (∀ k, (if (u.getD i 0) = (v.getD j 0) then ((some (([u.getD i 0] : List Int) : List Int)).bind fun y123 => (if 0 ≤ (wrap64 ((j : Int) + 1)) then (if (wrap64 ((j : Int) + 1)) < (below.length : Int) then (if y123.length + (rd_L1 below (wrap64 ((j : Int) + 1))).length < 140737488355328 then ((some (y123 ++ (rd_L1 below (wrap64 ((j : Int) + 1))) : List Int)).bind fun y127 => (if (j : Int) < (nw.length : Int) then ((edit_Shared_1.f y127 (rd_L1 nw (j : Int))).bind fun t131 => (if t131 = true then (edit_Shared.l1 k u v below (i : Int) (nw.set ((j : Int) : Int).toNat y127) (wrap64 ((j : Int) - 1))) else (edit_Shared.l1 k u v below (i : Int) nw (wrap64 ((j : Int) - 1))))) else (none))) else (none)) else (none)) else (none))) else (edit_Shared.l1 k u v below (i : Int) nw (wrap64 ((j : Int) - 1)))) = g k) → Leads u v i (fun k => edit_Shared.j3 k u v below (i : Int) nw (j : Int)) := by
        intro g hg he
        refine hg.of (fun R hR => ?_)
        refine Ev.step (fun k => by rw [edit_Shared.j3]) (Ev.pos (by omega) (Ev.pos (by omega) (Ev.pos (by omega) (Ev.pos (by omega) ?_))))
        rw [rd_nat, rd_nat]
        exact Ev.congr he hR
      have er : rd_L1 below (wrap64 ((j : Int) + 1)) = below.getD (j + 1) [] := by
        rw [w64 (by omega) (by omega), show (j : Int) + 1 = ((j + 1 : Nat) : Int) by omega, rdL_nat]
      have hdl := hd.l.length_le
      rw [List.length_drop] at hdl
      by_cases ce : u.getD i 0 = v.getD j 0
      · obtain ⟨t, t1, t2, t3⟩ := better_spec ([u.getD i 0] ++ below.getD (j + 1) []) (nw.getD j [])
        obtain ⟨d1, d2⟩ := b2 ce
        rw [ng j, if_pos rfl, List.singleton_append, List.length_cons] at t2 t3
        have hw1 : 0 ≤ wrap64 ((j : Int) + 1) := by rw [w64 (by omega) (by omega)]; omega
        have hw2 : wrap64 ((j : Int) + 1) < (below.length : Int) := by rw [w64 (by omega) (by omega)]; omega
        cases t with
        | true =>
          refine pre (last (u.getD i 0 :: below.getD (j + 1) []) (nw.set j ([u.getD i 0] ++ below.getD (j + 1) [])) (by rw [List.length_set]; exact nl) (fun t => ?_) (by rw [hu2, hv2]; exact d2 (t2 rfl))) (fun k => ?_)
          · rw [getD_setL _ _ _ _ (by omega), ng t]
            by_cases e2 : t = j
            · rw [if_pos e2, if_pos e2]; rfl
            · rw [if_neg e2, if_neg e2, if_neg e2]
          · rw [if_pos ce, Option.bind_some, if_pos hw1, if_pos hw2, er, if_pos (by rw [List.length_singleton]; omega), Option.bind_some, if_pos (by omega), rdL_nat, t1, Option.bind_some, if_pos rfl, Int.toNat_natCast]
        | false =>
          refine pre (last c nw nl ng (by rw [hu2, hv2]; exact d1 (t3 rfl))) (fun k => ?_)
          rw [if_pos ce, Option.bind_some, if_pos hw1, if_pos hw2, er, if_pos (by rw [List.length_singleton]; omega), Option.bind_some, if_pos (by omega), rdL_nat, t1, Option.bind_some, if_neg (by decide)]
      · exact pre (last c nw nl ng (by rw [hu2, hv2]; exact b1 ce)) (fun k => by rw [if_neg ce])
    rw [show ((j + 1 : Nat) : Int) - 1 = (j : Int) by omega]
    obtain ⟨t, t1, t2, t3⟩ := better_spec (below.getD j []) (now.getD (j + 1) [])
    have er : rd_L1 now ((j : Int) + 1) = now.getD (j + 1) [] := by
      rw [show (j : Int) + 1 = ((j + 1 : Nat) : Int) by omega, rdL_nat]
    have pre : ∀ {R : List Int × Int}, Ev (fun k => if t = true then (edit_Shared.j3 k u v below (i : Int) ((now.set j (now.getD (j + 1) [])).set j (below.getD j [])) (j : Int)) else (edit_Shared.j3 k u v below (i : Int) (now.set j (now.getD (j + 1) [])) (j : Int))) R → Ev (fun k => edit_Shared.l1 k u v below (i : Int) now (j : Int)) R := by
      intro R hR
      refine Ev.step (fun k => by rw [edit_Shared.l1]) (Ev.pos (by omega) ?_)
      rw [w64 (n := (j : Int) + 1) (by omega) (by omega)]
      refine Ev.pos (by omega) (Ev.pos (by omega) (Ev.pos (by omega) (Ev.pos (by omega) (Ev.let_ (Ev.pos (by omega) ?_)))))
      rw [er, Int.toNat_natCast, rdL_nat, rdL_nat, getD_setL _ _ _ _ (by omega), if_pos rfl]
      exact Ev.bindc t1 hR
    cases t with
    | true => exact (post (below.getD j []) _ (by rw [List.set_set]) (.inl rfl) (Nat.le_refl _) (t2 rfl)).of (fun R hR => pre (Ev.pos rfl hR))
    | false => exact (post (now.getD (j + 1) []) _ rfl (.inr rfl) (t3 rfl) (Nat.le_refl _)).of (fun R hR => pre (Ev.neg (by decide) hR))
theorem shared_l0 : ∀ (i : Nat) (below : List (List Int)), i ≤ u.length → below.length = v.length + 1 → (∀ t, t ≤ v.length → Best (u.drop i) (v.drop t) (below.getD t [])) → ∃ s, Best u v s ∧ Ev (fun k => edit_Shared.l0 k u v below ((i : Int) - 1)) (s, 0) := by
  intro i
  induction i with
  | zero =>
    intro below _ hb hB
    have h0 := hB 0 (Nat.zero_le _)
    rw [List.drop_zero, List.drop_zero] at h0
    refine ⟨below.getD 0 [], h0, ?_⟩
    have hl := h0.l.length_le
    refine Ev.step (fun k => by rw [edit_Shared.l0]) (Ev.neg (by omega) (Ev.pos (by omega) ?_))
    rw [show rd_L1 below 0 = below.getD 0 [] from rdL_nat below 0, bytes_Clone.f, if_pos (by omega)]
    exact Ev.now _
  | succ i ih =>
    intro below hi hb hB
    have hrep : ∀ t, (List.replicate ((v.length : Int) + 1).toNat ([] : List Int)).getD t [] = [] := fun t => by
      rw [List.getD_eq_getElem?_getD, List.getElem?_replicate]
      split <;> rfl
    obtain ⟨now, ⟨h1, h2⟩, h3⟩ := shared_l1 hu hv below i (by omega) hb hB v.length (List.replicate ((v.length : Int) + 1).toNat []) (Nat.le_refl _) (by simp <;> omega) (fun t t1 t2 => by
      rw [hrep, List.drop_eq_nil_of_le t1]
      exact best_nil_r _)
    obtain ⟨s, s1, s2⟩ := ih now (by omega) h1 h2
    refine ⟨s, s1, ?_⟩
    rw [show ((i + 1 : Nat) : Int) - 1 = (i : Int) by omega]
    refine Ev.step (fun k => by rw [edit_Shared.l0]) (Ev.pos (by omega) ?_)
    rw [w64 (n := (v.length : Int) + 1) (by omega) (by omega), w64 (n := (v.length : Int) - 1) (by omega) (by omega)]
    exact Ev.pos (by omega) (Ev.pos (by omega) (h3 _ s2))
end
theorem shared_spec (u v : List Int) : ∃ s e, Ev (fun k => edit_Shared.f k u v) (s, e) ∧ (60 < u.length ∨ 60 < v.length → e = 1) ∧ (u.length ≤ 60 → v.length ≤ 60 → e = 0 ∧ Best u v s) := by
  unfold edit_Shared.f
  by_cases h1 : 60 < u.length
  · exact ⟨[], 1, Ev.pos (by omega) (Ev.step (fun k => by rw [edit_Shared.j0]) (Ev.pos rfl (Ev.now _))), fun _ => rfl, fun h _ => by omega⟩
  by_cases h2 : 60 < v.length
  · exact ⟨[], 1, Ev.neg (by omega) (Ev.step (fun k => by rw [edit_Shared.j0]) (Ev.pos (by simp <;> omega) (Ev.now _))), fun _ => rfl, fun _ h => by omega⟩
  obtain ⟨s, s1, s2⟩ := shared_l0 (u := u) (v := v) (by omega) (by omega) u.length (List.replicate ((v.length : Int) + 1).toNat []) (Nat.le_refl _) (by simp <;> omega) (fun t _ => by
    rw [List.drop_length, List.getD_eq_getElem?_getD, List.getElem?_replicate]
    split <;> exact best_nil_l _)
  refine ⟨s, 0, ?_, fun h => by omega, fun _ _ => ⟨rfl, s1⟩⟩
  refine Ev.neg (by omega) (Ev.step (fun k => by rw [edit_Shared.j0]) (Ev.neg (by simp <;> omega) ?_))
  rw [w64 (n := (v.length : Int) + 1) (by omega) (by omega), w64 (n := (u.length : Int) - 1) (by omega) (by omega)]
  exact Ev.pos (by omega) (Ev.pos (by omega) s2)
theorem inside_l0 (v : List Int) (hv : v.length ≤ 60) : ∀ (d i : Nat) (x : List Int), i + d = v.length → Ev (fun k => edit_Inside.l0 k x v (v.length : Int) (i : Int)) (decide (x.Sublist (v.drop i)), 0) := by
  intro d
  induction d with
  | zero =>
    intro i x hi
    refine Ev.step (fun k => by rw [edit_Inside.l0]) (Ev.neg (by omega) (Ev.val ?_))
    rw [List.drop_eq_nil_of_le (by omega)]
    congr 2
    cases x with
    | nil => rfl
    | cons a x => simp <;> omega
  | succ d ih =>
    intro i x hi
    have hc := drop_cons (l := v) (i := i) (by omega)
    refine Ev.step (fun k => by rw [edit_Inside.l0]) (Ev.pos (by omega) (Ev.pos (by omega) (Ev.pos (by omega) ?_)))
    rw [w64 (n := (i : Int) + 1) (by omega) (by omega), rd_nat, hc]
    cases x with
    | nil =>
      refine Ev.neg (by simp) (Ev.eq (ih (i + 1) [] (by omega)) ?_)
      simp
    | cons a x =>
      refine Ev.pos (by simp <;> omega) (Ev.pos (by simp <;> omega) ?_)
      rw [show rd (a :: x) 0 = a from rfl]
      by_cases e : a = v.getD i 0
      · refine Ev.pos e (Ev.pos (by simp <;> omega) (Ev.eq (ih (i + 1) _ (by omega)) ?_))
        rw [← e, List.drop_one, List.tail_cons]
        congr 1
        rw [decide_eq_decide]
        exact List.cons_sublist_cons.symm
      · refine Ev.neg e (Ev.eq (ih (i + 1) _ (by omega)) ?_)
        congr 1
        rw [decide_eq_decide]
        constructor
        · intro h; exact h.cons _
        · intro h
          rcases List.sublist_cons_iff.1 h with h | ⟨r, h1, _⟩
          · exact h
          · injection h1 with h1 _
            exact absurd h1 e
theorem inside_spec (u v : List Int) : Ev (fun k => edit_Inside.f k u v) (if 60 < u.length ∨ 60 < v.length then (false, 1) else (decide (u.Sublist v), 0)) := by
  unfold edit_Inside.f
  by_cases h1 : 60 < u.length
  · rw [if_pos (.inl h1)]
    exact Ev.pos (by omega) (Ev.step (fun k => by rw [edit_Inside.j0]) (Ev.pos rfl (Ev.now _)))
  by_cases h2 : 60 < v.length
  · rw [if_pos (.inr h2)]
    exact Ev.neg (by omega) (Ev.step (fun k => by rw [edit_Inside.j0]) (Ev.pos (by simp <;> omega) (Ev.now _)))
  rw [if_neg (by omega)]
  have h3 := inside_l0 v (by omega) v.length 0 u (by omega)
  refine Ev.neg (by omega) (Ev.step (fun k => by rw [edit_Inside.j0]) ?_)
  refine Ev.neg (by simp <;> omega) ?_
  exact h3
theorem ed_sub {s u : List Int} (h : s.Sublist u) : Ed s u (u.length - s.length) := by
  induction h with
  | slnil => exact .nil
  | cons a h ih =>
    have hl := h.length_le
    rw [List.length_cons, Nat.succ_sub hl]
    exact .ins a ih
  | cons_cons a h ih =>
    have := Ed.sub a a ih
    rw [if_pos rfl, Nat.add_zero] at this
    rw [List.length_cons, List.length_cons, Nat.succ_sub_succ]
    exact this
theorem lev_shared {s u v : List Int} (h : s.Sublist u) (h' : s.Sublist v) : lev u v + 2 * s.length ≤ u.length + v.length := by
  obtain ⟨k, k1, k2⟩ := Ed.trans _ (Nat.le_refl _) (ed_sub h).symm (ed_sub h')
  have := lev_le k2
  have a := h.length_le
  have b := h'.length_le
  omega
end Go.Proofs.Ytkjhddjenkocjaa.PureL
