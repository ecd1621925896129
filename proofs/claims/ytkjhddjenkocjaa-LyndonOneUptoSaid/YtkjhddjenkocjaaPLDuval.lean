/- Lyndon words, as plain Lean: the longest low beginning of a word is the first of its parts (Chen, Fox, Lyndon), and how Duval's scan finds it. -/
import Derived.Test.YtkjhddjenkocjaaPLLow
namespace Go.Proofs.Ytkjhddjenkocjaa.PureL
set_option linter.unusedVariables false
set_option linter.unusedSimpArgs false
open Go.RowKit Go.Proofs.Ytkjhddjenkocjaa.GL Go.Proofs.YtkjhddjenkocjaaW.PrintWords Go.Proofs.YtkjhddjenkocjaaW.PrintLast

theorem ll_not_trans {a b c : List Int} (h : ¬ a < b) (h' : ¬ b < c) : ¬ a < c := fun hc => by
  rcases ll_tri a b with e | e | e
  · exact h e
  · subst e; exact h' hc
  · exact h' (ll_trans e hc)
/-- a first place that differs -/
theorem mis_lt : ∀ {a b : List Int} (t : Nat), t < a.length → t < b.length → (∀ s, s < t → a.getD s 0 = b.getD s 0) → a.getD t 0 < b.getD t 0 → a < b
  | [], _, t, h, _, _, _ => absurd h (Nat.not_lt_zero _)
  | _ :: _, [], t, _, h, _, _ => absurd h (Nat.not_lt_zero _)
  | a :: ta, b :: tb, 0, _, _, _, h => by
    rw [List.cons_lt_cons_iff]
    exact Or.inl h
  | a :: ta, b :: tb, t + 1, h1, h2, h3, h4 => by
    rw [List.cons_lt_cons_iff]
    refine Or.inr ⟨by simpa using h3 0 (Nat.succ_pos _), mis_lt t (Nat.lt_of_succ_lt_succ h1) (Nat.lt_of_succ_lt_succ h2) (fun s hs => by simpa using h3 (s + 1) (Nat.succ_lt_succ hs)) (by simpa using h4)⟩
theorem lt_mis : ∀ {a b : List Int}, a < b → b.length ≤ a.length → ∃ t, t < b.length ∧ (∀ s, s < t → a.getD s 0 = b.getD s 0) ∧ a.getD t 0 < b.getD t 0
  | _, [], h, _ => absurd h (List.not_lt_nil _)
  | [], b :: tb, _, h => absurd h (by simp)
  | a :: ta, b :: tb, h, hl => by
    rw [List.cons_lt_cons_iff] at h
    rcases h with h | ⟨h1, h2⟩
    · exact ⟨0, Nat.succ_pos _, fun s hs => absurd hs (Nat.not_lt_zero _), by simpa using h⟩
    · obtain ⟨t, t1, t2, t3⟩ := lt_mis h2 (by simpa using hl)
      refine ⟨t + 1, Nat.succ_lt_succ t1, fun s hs => ?_, by simpa using t3⟩
      cases s with
      | zero => simpa using h1
      | succ s => simpa using t2 s (Nat.lt_of_succ_lt_succ hs)
theorem getD_take {z : List Int} {n s : Nat} (h : s < n) : (z.take n).getD s 0 = z.getD s 0 := by
  simp only [List.getD_eq_getElem?_getD, List.getElem?_take]
  rw [if_pos h]
theorem getD_drop {z : List Int} {n s : Nat} : (z.drop n).getD s 0 = z.getD (n + s) 0 := by
  simp only [List.getD_eq_getElem?_getD, List.getElem?_drop]
/-- What ends s, s a beginning of words none of which is greater than b. -/
theorem tail_le (b : List Int) : ∀ (ps : List (List Int)), (∀ p ∈ ps, ¬ b < p) → ∀ (s r : List Int), s ≠ [] → s ++ r = ps.flatten → ∃ x y, s = x ++ y ∧ y ≠ [] ∧ ¬ b < y
  | [], _, s, r, hs, h => by
    rw [List.flatten_nil, List.append_eq_nil_iff] at h
    exact absurd h.1 hs
  | p :: ps, hp, s, r, hs, h => by
    rw [List.flatten_cons] at h
    rcases List.append_eq_append_iff.1 h with ⟨a, h1, h2⟩ | ⟨c, h1, h2⟩
    · -- s is a beginning of p
      refine ⟨[], s, rfl, hs, fun hb => hp p List.mem_cons_self ?_⟩
      rw [h1]
      rcases Decidable.em (a = []) with e | e
      · rw [e, List.append_nil]; exact hb
      · exact ll_trans hb (ll_pre s a e)
    · rcases Decidable.em (c = []) with e | e
      · rw [e, List.append_nil] at h1
        exact ⟨[], s, rfl, hs, by rw [h1]; exact hp p List.mem_cons_self⟩
      · obtain ⟨x, y, e1, e2, e3⟩ := tail_le b ps (fun q hq => hp q (List.mem_cons_of_mem _ hq)) c r e h2.symm
        exact ⟨p ++ x, y, by rw [h1, e1, List.append_assoc], e2, e3⟩
/-- none less than the next one -/
def Falls : List (List Int) → Prop
  | [] => True
  | p :: ps => (∀ q ∈ ps, ¬ p < q) ∧ Falls ps
/-- The longest low beginning is the first part. -/
theorem first_part {p : List Int} {ps : List (List Int)} (hl : ∀ q ∈ p :: ps, Lyn q) (hf : Falls (p :: ps)) {m : Nat} (hm : Lyn ((p :: ps).flatten.take m)) (hmax : ∀ m', m < m' → m' ≤ (p :: ps).flatten.length → ¬ Lyn ((p :: ps).flatten.take m')) (hml : m ≤ (p :: ps).flatten.length) : p.length = m := by
  have hp := hl p List.mem_cons_self
  have e : (p :: ps).flatten.take p.length = p := by rw [List.flatten_cons, List.take_left']; rfl
  rcases Nat.lt_trichotomy p.length m with c | c | c
  · exfalso
    -- u = p ++ s
    have hu : (p :: ps).flatten.take m = p ++ ps.flatten.take (m - p.length) := by
      rw [List.flatten_cons, List.take_append, List.take_of_length_le (by omega)]
    have hlen : (p :: ps).flatten.length = p.length + ps.flatten.length := by rw [List.flatten_cons, List.length_append]
    have hs : ps.flatten.take (m - p.length) ≠ [] := by
      intro h0
      have := congrArg List.length h0
      rw [List.length_take, List.length_nil] at this
      omega
    obtain ⟨x, y, h1, h2, h3⟩ := tail_le p ps hf.1 _ (ps.flatten.drop (m - p.length)) hs (List.take_append_drop _ _)
    have hpu : p < (p :: ps).flatten.take m := by rw [hu]; exact ll_pre p _ hs
    have hy0 : 0 < y.length := List.length_pos_iff.2 h2
    have hul : ((p :: ps).flatten.take m).length = p.length + x.length + y.length := by rw [hu, h1]; simp [Nat.add_assoc]
    have hp0 := hp.1
    have hd := hm.2 (p.length + x.length) (by omega) (by omega)
    have ed : ((p :: ps).flatten.take m).drop (p.length + x.length) = y := by
      rw [hu, h1, ← List.append_assoc, List.drop_append_of_le_length (by simp), List.drop_eq_nil_of_le (by simp), List.nil_append]
    rw [ed] at hd
    exact h3 (ll_trans hpu hd)
  · exact c
  · have := hmax p.length c (by rw [List.flatten_cons, List.length_append]; omega)
    rw [e] at this
    exact absurd hp this
/-- z's first n letters repeat those p ahead. -/
def Per (z : List Int) (p n : Nat) : Prop := ∀ j, p ≤ j → j < n → z.getD j 0 = z.getD (j - p) 0
theorem per_mod {z : List Int} {p n : Nat} (hp : 0 < p) (h : Per z p n) : ∀ j, j < n → z.getD j 0 = z.getD (j % p) 0 := by
  intro j
  induction j using Nat.strongRecOn with
  | ind j ih =>
    intro hj
    rcases Nat.lt_or_ge j p with c | c
    · rw [Nat.mod_eq_of_lt c]
    · rw [h j c hj, ih (j - p) (by omega) (by omega), Nat.mod_eq_sub_mod c]
theorem per_more {z : List Int} {p n : Nat} (h : Per z p n) (e : z.getD (n - p) 0 = z.getD n 0) : Per z p (n + 1) := fun j h1 h2 => by
  rcases Nat.lt_or_ge j n with c | c
  · exact h j h1 c
  · obtain rfl : j = n := by omega
    exact e.symm
theorem per_drop {z : List Int} {p n : Nat} (h : Per z p n) : Per (z.drop p) p (n - p) := fun j h1 h2 => by
  rw [getD_drop, getD_drop, h (p + j) (by omega) (by omega)]
  congr 1
  omega
theorem per_take {z : List Int} {p n : Nat} (hp : 0 < p) (h : Per z p n) (hn : p + p ≤ n) (hl : n ≤ z.length) : (z.drop p).take p = z.take p := by
  refine List.ext_getElem (by simp; omega) fun i h1 h2 => ?_
  have hi : i < p := by simp at h2; omega
  have := h (p + i) (by omega) (by omega)
  rw [show p + i - p = i by omega] at this
  simp only [List.getD_eq_getElem?_getD, List.getElem?_eq_getElem (show p + i < z.length by omega), List.getElem?_eq_getElem (show i < z.length by omega), Option.getD_some] at this
  simp only [List.getElem_take, List.getElem_drop]
  exact this
/-- A greater letter makes all one low word. -/
theorem duval_less {z : List Int} {p n : Nat} (hp : 0 < p) (hu : Lyn (z.take p)) (h : Per z p n) (hpn : p ≤ n) (hn : n < z.length) (hlt : z.getD (n - p) 0 < z.getD n 0) : Lyn (z.take (n + 1)) := by
  have hlen : (z.take (n + 1)).length = n + 1 := by rw [List.length_take]; omega
  have hup : (z.take p).length = p := by rw [List.length_take]; omega
  refine ⟨by omega, fun j hj1 hj2 => ?_⟩
  rw [hlen] at hj2
  have hm := per_mod hp h
  have hnn : z.getD (n % p) 0 < z.getD n 0 := by
    rw [Nat.mod_eq_sub_mod hpn, ← hm (n - p) (by omega)]
    exact hlt
  -- the first place that differs
  have key : ∃ t, j + t ≤ n ∧ (∀ s, s < t → z.getD s 0 = z.getD (j + s) 0) ∧ z.getD t 0 < z.getD (j + t) 0 := by
    rcases Nat.eq_zero_or_pos (j % p) with c | c
    · refine ⟨n - j, by omega, fun s hs => ?_, ?_⟩
      · rw [hm s (by omega), hm (j + s) (by omega), Nat.add_mod, c, Nat.zero_add, Nat.mod_mod]
      · rw [show j + (n - j) = n by omega, hm (n - j) (by omega)]
        have : (n - j) % p = n % p := by
          conv => rhs; rw [show n = j + (n - j) by omega, Nat.add_mod, c, Nat.zero_add, Nat.mod_mod]
        rw [this]
        exact hnn
    · have hb := Nat.mod_lt j hp
      have h1 := hu.2 (j % p) c (by omega)
      obtain ⟨t, t1, t2, t3⟩ := lt_mis h1 (by rw [List.length_drop]; omega)
      rw [List.length_drop, hup] at t1
      have eD : ∀ s, s < p - j % p → ((z.take p).drop (j % p)).getD s 0 = z.getD (j % p + s) 0 := fun s hs => by
        rw [getD_drop, getD_take (by omega)]
      have eM : ∀ s, s < p - j % p → (j + s) % p = j % p + s := fun s hs => by
        rw [Nat.add_mod, Nat.mod_eq_of_lt (show s < p by omega), Nat.mod_eq_of_lt (by omega)]
      rcases Nat.lt_or_ge (j + t) n with d | d
      · refine ⟨t, by omega, fun s hs => ?_, ?_⟩
        · have := t2 s hs
          rw [eD s (by omega), getD_take (by omega)] at this
          rw [this, hm (j + s) (by omega), eM s (by omega)]
        · rw [eD t t1, getD_take (by omega)] at t3
          rw [hm (j + t) (by omega), eM t t1]
          exact t3
      · refine ⟨n - j, by omega, fun s hs => ?_, ?_⟩
        · have := t2 s (by omega)
          rw [eD s (by omega), getD_take (by omega)] at this
          rw [this, hm (j + s) (by omega), eM s (by omega)]
        · rw [show j + (n - j) = n by omega]
          have e2 : n % p = j % p + (n - j) := by
            have := eM (n - j) (by omega)
            rwa [show j + (n - j) = n by omega] at this
          rw [e2] at hnn
          refine Int.lt_of_le_of_lt ?_ hnn
          rcases Nat.lt_or_ge (n - j) t with e | e
          · have := t2 (n - j) e
            rw [eD _ (by omega), getD_take (by omega)] at this
            rw [this]
            exact Int.le_refl _
          · obtain rfl : t = n - j := by omega
            rw [eD _ t1, getD_take (by omega)] at t3
            exact Int.le_of_lt t3
  obtain ⟨t, k1, k2, k3⟩ := key
  refine mis_lt t (by omega) (by rw [List.length_drop, hlen]; omega) (fun s hs => ?_) ?_
  · rw [getD_drop, getD_take (by omega), getD_take (by omega)]
    exact k2 s hs
  · rw [getD_drop, getD_take (by omega), getD_take (by omega)]
    exact k3
/-- Where the scan ends the first period is the longest low beginning. -/
theorem duval_max {z : List Int} {p n : Nat} (hp : 0 < p) (h : Per z p n) (hpn : p ≤ n) (hn : n ≤ z.length) (hend : n = z.length ∨ z.getD n 0 < z.getD (n - p) 0) : ∀ m, p < m → m ≤ z.length → ¬ Lyn (z.take m) := by
  intro m h1 h2 hL
  have hlen : (z.take m).length = m := by rw [List.length_take]; omega
  rcases Nat.lt_or_ge n m with c | c
  · rcases hend with e | e
    · omega
    · have h3 := hL.2 p (by omega) (by omega)
      refine ll_irrefl _ (ll_trans h3 (mis_lt (n - p) (by rw [List.length_drop]; omega) (by omega) (fun s hs => ?_) ?_))
      · rw [getD_drop, getD_take (by omega), getD_take (by omega), h (p + s) (by omega) (by omega), show p + s - p = s by omega]
      · rw [getD_drop, getD_take (by omega), getD_take (by omega), show p + (n - p) = n by omega]
        exact e
  · have := lyn_noborder hL (k := m - p) ⟨by omega, fun s hs => by
      rw [hlen, getD_take (by omega), getD_take (by omega), show m - (m - p) + s = p + s by omega, h (p + s) (by omega) (by omega), show p + s - p = s by omega]⟩
    omega
end Go.Proofs.Ytkjhddjenkocjaa.PureL
