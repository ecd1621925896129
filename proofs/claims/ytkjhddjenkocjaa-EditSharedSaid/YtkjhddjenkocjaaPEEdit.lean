/- Edit distance, as plain Lean: what edit.Far answers. -/
import Derived.Test.YtkjhddjenkocjaaPELon
import Derived.Test.YtkjhddjenkocjaaGE4
namespace Go.Proofs.Ytkjhddjenkocjaa.PureL
set_option linter.unusedVariables false
set_option linter.unusedSimpArgs false
open Go.RowKit Go.Proofs.Ytkjhddjenkocjaa.GE Go.Proofs.YtkjhddjenkocjaaW.PrintWords Go.Proofs.YtkjhddjenkocjaaW.PrintLast
/-- u is turned into v by n changes of one letter. -/
inductive Ed : List Int → List Int → Nat → Prop
  | nil : Ed [] [] 0
  | del (a : Int) {u v : List Int} {n : Nat} : Ed u v n → Ed (a :: u) v (n + 1)
  | ins (b : Int) {u v : List Int} {n : Nat} : Ed u v n → Ed u (b :: v) (n + 1)
  | sub (a b : Int) {u v : List Int} {n : Nat} : Ed u v n → Ed (a :: u) (b :: v) (n + if a = b then 0 else 1)
theorem Ed.symm {u v : List Int} {n : Nat} (h : Ed u v n) : Ed v u n := by
  induction h with
  | nil => exact .nil
  | del a _ ih => exact .ins a ih
  | ins b _ ih => exact .del b ih
  | sub a b _ ih =>
    have := Ed.sub b a ih
    have e : (if b = a then 0 else 1) = (if a = b then 0 else 1) := by
      by_cases h : a = b
      · subst h; rfl
      · rw [if_neg h, if_neg (Ne.symm h)]
    rw [e] at this
    exact this
theorem Ed.refl : ∀ u : List Int, Ed u u 0
  | [] => .nil
  | a :: u => by have := Ed.sub a a (Ed.refl u); simpa using this
theorem Ed.app {u v u' v' : List Int} {n m : Nat} (h : Ed u v n) (h' : Ed u' v' m) : Ed (u ++ u') (v ++ v') (n + m) := by
  induction h with
  | nil => simpa using h'
  | del a _ ih => have := Ed.del a ih; rw [Nat.add_right_comm]; exact this
  | ins b _ ih => have := Ed.ins b ih; rw [Nat.add_right_comm]; exact this
  | sub a b _ ih => have := Ed.sub a b ih; rw [Nat.add_right_comm]; exact this
theorem Ed.rev {u v : List Int} {n : Nat} (h : Ed u v n) : Ed u.reverse v.reverse n := by
  induction h with
  | nil => exact .nil
  | del a _ ih => have := ih.app (Ed.del a Ed.nil); simpa using this
  | ins b _ ih => have := ih.app (Ed.ins b Ed.nil); simpa using this
  | sub a b _ ih => have := ih.app (Ed.sub a b Ed.nil); simpa using this
theorem Ed.zero {u v : List Int} {n : Nat} (h : Ed u v n) : n = 0 → u = v := by
  induction h with
  | nil => intro _; rfl
  | del a _ ih => intro h; omega
  | ins b _ ih => intro h; omega
  | sub a b _ ih =>
    intro h
    by_cases e : a = b
    · rw [if_pos e] at h; rw [e, ih (by omega)]
    · rw [if_neg e] at h; omega
theorem Ed.trans : ∀ (s : Nat) {u v w : List Int} {n m : Nat}, u.length + v.length + w.length ≤ s → Ed u v n → Ed v w m → ∃ k, k ≤ n + m ∧ Ed u w k := by
  intro s
  induction s with
  | zero =>
    intro u v w n m hs h1 h2
    obtain rfl := List.length_eq_zero_iff.1 (show u.length = 0 by omega)
    obtain rfl := List.length_eq_zero_iff.1 (show w.length = 0 by omega)
    exact ⟨0, by omega, .nil⟩
  | succ s ih =>
    intro u v w n m hs h1 h2
    cases h1 with
    | nil =>
      cases h2 with
      | nil => exact ⟨0, by omega, .nil⟩
      | ins c h2 => exact ⟨_, by omega, .ins c h2⟩
    | del a h1 =>
      simp only [List.length_cons] at hs
      obtain ⟨k, hk, h⟩ := ih (by omega) h1 h2
      exact ⟨k + 1, by omega, .del a h⟩
    | @ins b _ v n h1 =>
      simp only [List.length_cons] at hs
      cases h2 with
      | @del _ _ _ m h2 =>
        obtain ⟨k, hk, h⟩ := ih (by omega) h1 h2
        exact ⟨k, by omega, h⟩
      | @ins c _ _ m h2 =>
        simp only [List.length_cons] at hs
        obtain ⟨k, hk, h⟩ := ih (by simp only [List.length_cons]; omega) (Ed.ins b h1) h2
        exact ⟨k + 1, by omega, .ins c h⟩
      | @sub _ c _ _ m h2 =>
        simp only [List.length_cons] at hs
        obtain ⟨k, hk, h⟩ := ih (by omega) h1 h2
        exact ⟨k + 1, by omega, .ins c h⟩
    | @sub a b u v n h1 =>
      simp only [List.length_cons] at hs
      cases h2 with
      | @del _ _ _ m h2 =>
        obtain ⟨k, hk, h⟩ := ih (by omega) h1 h2
        exact ⟨k + 1, by omega, .del a h⟩
      | @ins c _ _ m h2 =>
        simp only [List.length_cons] at hs
        obtain ⟨k, hk, h⟩ := ih (by simp only [List.length_cons]; omega) (Ed.sub a b h1) h2
        exact ⟨k + 1, by omega, .ins c h⟩
      | @sub _ c _ _ m h2 =>
        simp only [List.length_cons] at hs
        obtain ⟨k, hk, h⟩ := ih (by omega) h1 h2
        refine ⟨_, ?_, .sub a c h⟩
        by_cases e1 : a = b
        · subst e1; simp; omega
        · rw [if_neg e1]
          have : (if a = c then 0 else 1) ≤ 1 := by split <;> omega
          omega
theorem Ed.del_ins {b : Int} : ∀ {u v : List Int} {n : Nat}, Ed u (b :: v) n → ∃ m, m ≤ n + 1 ∧ Ed u v m := by
  intro u
  induction u with
  | nil =>
    intro v n h
    cases h with
    | ins _ h => exact ⟨_, by omega, h⟩
  | cons a u ih =>
    intro v n h
    cases h with
    | ins _ h => exact ⟨_, by omega, h⟩
    | del _ h =>
      obtain ⟨m, hm, h⟩ := ih h
      exact ⟨m + 1, by omega, .del a h⟩
    | sub _ _ h => exact ⟨_, by omega, .del a h⟩
theorem Ed.cancel {a : Int} {u v : List Int} {n : Nat} (h : Ed (a :: u) (a :: v) n) : ∃ m, m ≤ n ∧ Ed u v m := by
  cases h with
  | ins _ h =>
    obtain ⟨m, hm, h⟩ := h.symm.del_ins
    exact ⟨m, hm, h.symm⟩
  | del _ h => exact h.del_ins
  | sub _ _ h => exact ⟨_, by omega, h⟩
def lev : List Int → List Int → Nat
  | [], v => v.length
  | a :: u, [] => u.length + 1
  | a :: u, b :: v => min (min (lev u v + if a = b then 0 else 1) (lev (a :: u) v + 1)) (lev u (b :: v) + 1)
termination_by u v => u.length + v.length
theorem lev_nil (u : List Int) : lev u [] = u.length := by cases u <;> simp [lev]
theorem lev_ins (u : List Int) (b : Int) (v : List Int) : lev u (b :: v) ≤ lev u v + 1 := by
  cases u with
  | nil => simp [lev]
  | cons a u => rw [lev]; omega
theorem lev_del (a : Int) (u v : List Int) : lev (a :: u) v ≤ lev u v + 1 := by
  cases v with
  | nil => simp [lev_nil]
  | cons b v => rw [lev]; omega
theorem lev_sub (a b : Int) (u v : List Int) : lev (a :: u) (b :: v) ≤ lev u v + if a = b then 0 else 1 := by rw [lev]; omega
theorem lev_le {u v : List Int} {n : Nat} (h : Ed u v n) : lev u v ≤ n := by
  induction h with
  | nil => simp [lev]
  | del a _ ih => exact Nat.le_trans (lev_del a _ _) (by omega)
  | ins b _ ih => exact Nat.le_trans (lev_ins _ b _) (by omega)
  | sub a b _ ih => exact Nat.le_trans (lev_sub a b _ _) (by omega)
theorem lev_ed : ∀ (s : Nat) (u v : List Int), u.length + v.length ≤ s → Ed u v (lev u v) := by
  intro s
  induction s with
  | zero =>
    intro u v h
    obtain rfl := List.length_eq_zero_iff.1 (show u.length = 0 by omega)
    obtain rfl := List.length_eq_zero_iff.1 (show v.length = 0 by omega)
    simpa [lev] using Ed.nil
  | succ s ih =>
    intro u v h
    match u, v with
    | [], [] => simpa [lev] using Ed.nil
    | [], b :: v => have := Ed.ins b (ih [] v (by simpa using h)); simpa [lev] using this
    | a :: u, [] => have := Ed.del a (ih u [] (by simpa using h)); simpa [lev_nil] using this
    | a :: u, b :: v =>
      simp only [List.length_cons] at h
      have h1 := Ed.sub a b (ih u v (by omega))
      have h2 := Ed.ins b (ih (a :: u) v (by simp <;> omega))
      have h3 := Ed.del a (ih u (b :: v) (by simp <;> omega))
      rw [lev]
      rcases Nat.le_total (lev u v + if a = b then 0 else 1) (lev (a :: u) v + 1) with c | c
      · rw [Nat.min_eq_left c]
        rcases Nat.le_total (lev u v + if a = b then 0 else 1) (lev u (b :: v) + 1) with c2 | c2
        · rw [Nat.min_eq_left c2]; exact h1
        · rw [Nat.min_eq_right c2]; exact h3
      · rw [Nat.min_eq_right c]
        rcases Nat.le_total (lev (a :: u) v + 1) (lev u (b :: v) + 1) with c2 | c2
        · rw [Nat.min_eq_left c2]; exact h2
        · rw [Nat.min_eq_right c2]; exact h3
theorem ed_lev (u v : List Int) : Ed u v (lev u v) := lev_ed _ u v (Nat.le_refl _)
theorem lev_comm (u v : List Int) : lev u v = lev v u := Nat.le_antisymm (lev_le (ed_lev v u).symm) (lev_le (ed_lev u v).symm)
theorem lev_rev (u v : List Int) : lev u.reverse v.reverse = lev u v := by
  refine Nat.le_antisymm (lev_le (ed_lev u v).rev) ?_
  have := lev_le (ed_lev u.reverse v.reverse).rev
  simpa using this
theorem lev_tri (u v w : List Int) : lev u w ≤ lev u v + lev v w := by
  obtain ⟨k, hk, h⟩ := Ed.trans _ (Nat.le_refl _) (ed_lev u v) (ed_lev v w)
  exact Nat.le_trans (lev_le h) hk
theorem lev_zero (u v : List Int) : lev u v = 0 ↔ u = v := by
  constructor
  · intro h; exact (ed_lev u v).zero h
  · rintro rfl; have := lev_le (Ed.refl u); omega
theorem lev_cancel : ∀ x u v : List Int, lev (x ++ u) (x ++ v) = lev u v
  | [], u, v => rfl
  | a :: x, u, v => by
    have h1 : lev (a :: (x ++ u)) (a :: (x ++ v)) ≤ lev (x ++ u) (x ++ v) := by have := lev_sub a a (x ++ u) (x ++ v); simpa using this
    obtain ⟨m, hm, h⟩ := (ed_lev (a :: (x ++ u)) (a :: (x ++ v))).cancel
    have h2 := lev_le h
    rw [← lev_cancel x u v]
    simp only [List.cons_append]
    omega
theorem lev_bd : ∀ (s : Nat) (u v : List Int), u.length + v.length ≤ s → lev u v ≤ u.length + v.length := by
  intro s
  induction s with
  | zero =>
    intro u v h
    obtain rfl := List.length_eq_zero_iff.1 (show u.length = 0 by omega)
    simp [lev]
  | succ s ih =>
    intro u v h
    match u, v with
    | [], v => simp [lev]
    | a :: u, [] => simp [lev_nil]
    | a :: u, b :: v =>
      simp only [List.length_cons] at h ⊢
      have := lev_del a u (b :: v)
      have := ih u (b :: v) (by simp <;> omega)
      simp only [List.length_cons] at this
      omega
/-- The table's entries: of the first i letters of u and the first j of v. -/
def Dt (u v : List Int) (i j : Nat) : Nat := lev (u.take i).reverse (v.take j).reverse
theorem take_rev (u : List Int) (i : Nat) (h : i < u.length) : (u.take (i + 1)).reverse = u.getD i 0 :: (u.take i).reverse := by
  rw [List.take_succ_eq_append_getElem h, List.reverse_append]
  simp [List.getD_eq_getElem?_getD, List.getElem?_eq_getElem h]
theorem Dt_zero (u v : List Int) (j : Nat) (h : j ≤ v.length) : Dt u v 0 j = j := by simp [Dt, lev, h]
theorem Dt_left (u v : List Int) (i : Nat) (h : i ≤ u.length) : Dt u v i 0 = i := by simp [Dt, lev_nil, h]
theorem Dt_step (u v : List Int) (i j : Nat) (hi : i < u.length) (hj : j < v.length) : Dt u v (i + 1) (j + 1) = min (min (Dt u v i j + if u.getD i 0 = v.getD j 0 then 0 else 1) (Dt u v (i + 1) j + 1)) (Dt u v i (j + 1) + 1) := by
  unfold Dt
  rw [take_rev u i hi, take_rev v j hj, lev]
theorem Dt_bd (u v : List Int) (i j : Nat) : Dt u v i j ≤ u.length + v.length := by
  have := lev_bd _ (u.take i).reverse (v.take j).reverse (Nat.le_refl _)
  unfold Dt
  simp only [List.length_reverse, List.length_take] at this
  omega
theorem mn_nat (a b : Nat) : mn (a : Int) (b : Int) = ((min a b : Nat) : Int) := by unfold mn; split <;> omega
theorem getD_set' (xs : List Int) (n t : Nat) (a : Int) (h : n < xs.length) : (xs.set n a).getD t 0 = if t = n then a else xs.getD t 0 := by
  simp only [List.getD_eq_getElem?_getD, List.getElem?_set]
  by_cases e : n = t
  · subst e; simp [h]
  · rw [if_neg e, if_neg (Ne.symm e)]
theorem far_l2 (u v : List Int) (hu : u.length ≤ 60) (hv : v.length ≤ 60) (i : Nat) (hi : i < u.length) (R : Int × Int)
    (next : ∀ row : List Int, row.length = v.length + 1 → (∀ t, t ≤ v.length → row.getD t 0 = Dt u v (i + 1) t) → Ev (fun k => edit_Far.l1 k v row u (u.length : Int) ((i + 1 : Nat) : Int)) R) :
    ∀ (d j : Nat) (row : List Int), j + d = v.length → row.length = v.length + 1 → (∀ t, t ≤ j → row.getD t 0 = Dt u v (i + 1) t) → (∀ t, j < t → t ≤ v.length → row.getD t 0 = Dt u v i t) →
      Ev (fun k => edit_Far.l2 k v row (u.getD i 0) (Dt u v i j : Int) u (u.length : Int) (i : Int) v (v.length : Int) (j : Int)) R := by
  intro d
  induction d with
  | zero =>
    intro j row hj hr h1 h2
    obtain rfl : j = v.length := by omega
    refine Ev.step (fun k => by rw [edit_Far.l2]) (Ev.neg (by omega) ?_)
    rw [w64 (by omega) (by omega)]
    exact next row hr h1
  | succ d ih =>
    intro j row hj hr h1 h2
    have b0 := Dt_bd u v i j
    have b1 := Dt_bd u v (i + 1) j
    have b2 := Dt_bd u v i (j + 1)
    have b3 := Dt_bd u v (i + 1) (j + 1)
    have r0 : rd row (j : Int) = (Dt u v (i + 1) j : Int) := by rw [rd_nat]; exact h1 j (by omega)
    have r1 : rd row ((j : Int) + 1) = (Dt u v i (j + 1) : Int) := by rw [show (j : Int) + 1 = ((j + 1 : Nat) : Int) by omega, rd_nat]; exact h2 (j + 1) (by omega) (by omega)
    have st := Dt_step u v i j hi (by omega)
    have go := ih (j + 1) (row.set (j + 1) (Dt u v (i + 1) (j + 1) : Int)) (by omega) (by simpa using hr) (fun t ht => by
        rw [getD_set' _ _ _ _ (by omega)]
        by_cases e : t = j + 1
        · rw [if_pos e, e]
        · rw [if_neg e]; exact h1 t (by omega)) (fun t ht ht2 => by
        rw [getD_set' _ _ _ _ (by omega), if_neg (by omega)]
        exact h2 t (by omega) ht2)
    refine Ev.step (fun k => by rw [edit_Far.l2]) (Ev.pos (by omega) (Ev.pos (by omega) (Ev.pos (by omega) ?_)))
    rw [rd_nat v j, w64 (n := (j : Int) + 1) (by omega) (by omega), r0, r1, w64 (n := (Dt u v (i + 1) j : Int) + 1) (by omega) (by omega), w64 (n := (Dt u v i (j + 1) : Int) + 1) (by omega) (by omega)]
    by_cases e : u.getD i 0 = v.getD j 0
    · refine Ev.pos e (Ev.pos (by omega) (Ev.pos (by omega) (Ev.pos (by omega) ?_)))
      rw [if_pos e] at st
      rw [show ((Dt u v (i + 1) j : Int) + 1) = ((Dt u v (i + 1) j + 1 : Nat) : Int) by omega, show ((Dt u v i (j + 1) : Int) + 1) = ((Dt u v i (j + 1) + 1 : Nat) : Int) by omega, mn_nat, mn_nat,
        show ((j : Int) + 1).toNat = j + 1 by omega, show min (min (Dt u v i j) (Dt u v (i + 1) j + 1)) (Dt u v i (j + 1) + 1) = Dt u v (i + 1) (j + 1) by rw [st]; rfl]
      exact go
    · refine Ev.neg e (Ev.pos (by omega) (Ev.pos (by omega) (Ev.pos (by omega) ?_)))
      rw [if_neg e] at st
      rw [w64 (n := (Dt u v i j : Int) + 1) (by omega) (by omega), show ((Dt u v i j : Int) + 1) = ((Dt u v i j + 1 : Nat) : Int) by omega,
        show ((Dt u v (i + 1) j : Int) + 1) = ((Dt u v (i + 1) j + 1 : Nat) : Int) by omega, show ((Dt u v i (j + 1) : Int) + 1) = ((Dt u v i (j + 1) + 1 : Nat) : Int) by omega, mn_nat, mn_nat,
        show ((j : Int) + 1).toNat = j + 1 by omega, ← st]
      exact go
theorem far_l1 (u v : List Int) (hu : u.length ≤ 60) (hv : v.length ≤ 60) : ∀ (d i : Nat) (row : List Int), i + d = u.length → row.length = v.length + 1 → (∀ t, t ≤ v.length → row.getD t 0 = Dt u v i t) →
    Ev (fun k => edit_Far.l1 k v row u (u.length : Int) (i : Int)) ((lev u v : Int), 0) := by
  intro d
  induction d with
  | zero =>
    intro i row hi hr h
    refine Ev.step (fun k => by rw [edit_Far.l1]) (Ev.neg (by omega) (Ev.pos (by omega) (Ev.pos (by omega) (Ev.eq (Ev.now _) ?_))))
    rw [rd_nat, h _ (Nat.le_refl _)]
    obtain rfl : i = u.length := by omega
    unfold Dt
    rw [List.take_length, List.take_length, lev_rev]
  | succ d ih =>
    intro i row hi hr h
    refine Ev.step (fun k => by rw [edit_Far.l1]) (Ev.pos (by omega) (Ev.pos (by omega) (Ev.pos (by omega) (Ev.pos (by omega) ?_))))
    have e0 : rd row 0 = (Dt u v i 0 : Int) := by rw [show (0 : Int) = ((0 : Nat) : Int) from rfl, rd_nat]; exact h 0 (by omega)
    rw [rd_nat u i, e0, w64 (by omega) (by omega)]
    refine far_l2 u v hu hv i (by omega) _ (fun row2 h1 h2 => ih (i + 1) row2 (by omega) h1 h2) v.length 0 _ (by omega) (by simpa using hr) (fun t ht => ?_) (fun t ht ht2 => ?_)
    · obtain rfl : t = 0 := by omega
      rw [show ((0 : Int)).toNat = 0 from rfl, getD_set' _ _ _ _ (by omega), if_pos rfl, Dt_left _ _ _ (by omega)]; omega
    · rw [show ((0 : Int)).toNat = 0 from rfl, getD_set' _ _ _ _ (by omega), if_neg (by omega)]; exact h t ht2
theorem far_l0 (u v : List Int) (hu : u.length ≤ 60) (hv : v.length ≤ 60) : ∀ (d i : Nat) (row : List Int), i + d = v.length + 1 → row.length = v.length + 1 → (∀ t, t < i → row.getD t 0 = (t : Int)) →
    Ev (fun k => edit_Far.l0 k u v row ((v.length + 1 : Nat) : Int) (i : Int)) ((lev u v : Int), 0) := by
  intro d
  induction d with
  | zero =>
    intro i row hi hr h
    refine Ev.step (fun k => by rw [edit_Far.l0]) (Ev.neg (by omega) ?_)
    exact far_l1 u v hu hv u.length 0 row (by omega) hr (fun t ht => by rw [h t (by omega), Dt_zero u v t ht])
  | succ d ih =>
    intro i row hi hr h
    refine Ev.step (fun k => by rw [edit_Far.l0]) (Ev.pos (by omega) (Ev.pos (by omega) (Ev.pos (by omega) ?_)))
    rw [w64 (by omega) (by omega), Int.toNat_natCast]
    exact ih (i + 1) _ (by omega) (by simpa using hr) (fun t ht => by
      rw [getD_set' _ _ _ _ (by omega)]
      by_cases e : t = i
      · rw [if_pos e, e]
      · rw [if_neg e]; exact h t (by omega))
def farR (u v : List Int) : Int × Int := if 60 < u.length ∨ 60 < v.length then (0, 1) else ((lev u v : Int), 0)
theorem far_spec (u v : List Int) : Ev (fun k => edit_Far.f k u v) (farR u v) := by
  unfold edit_Far.f farR
  by_cases h1 : 60 < u.length
  · rw [if_pos (.inl h1)]
    exact Ev.pos (by omega) (Ev.step (fun k => by rw [edit_Far.j0]) (Ev.pos rfl (Ev.now _)))
  refine Ev.neg (by omega) (Ev.step (fun k => by rw [edit_Far.j0]) ?_)
  by_cases h2 : 60 < v.length
  · rw [if_pos (.inr h2)]
    exact Ev.pos (by simp <;> omega) (Ev.now _)
  rw [if_neg (by omega)]
  refine Ev.neg (by simp <;> omega) ?_
  rw [w64 (by omega) (by omega)]
  refine Ev.pos (by omega) (Ev.pos (by omega) (Ev.let_ ?_))
  have := far_l0 u v (by omega) (by omega) (v.length + 1) 0 (List.replicate ((v.length : Int) + 1).toNat 0) (by omega) (by simp <;> omega) (fun t ht => by omega)
  rw [show (List.replicate ((v.length : Int) + 1).toNat (0 : Int)).length = v.length + 1 by simp <;> omega]
  exact this
end Go.Proofs.Ytkjhddjenkocjaa.PureL
