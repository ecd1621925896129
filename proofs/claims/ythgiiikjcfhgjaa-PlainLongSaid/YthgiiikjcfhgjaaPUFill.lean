/- Words on tables in plain Lean: what table.fill answers: a table closed under the rules, and the least one. Conditions: grammar and word are good. -/
import Derived.Test.YthgiiikjcfhgjaaPUTable
import Derived.Test.YthgiiikjcfhgjaaGU5
namespace Go.Proofs.Ythgiiikjcfhgjaa.PUM
set_option linter.unusedVariables false
set_option linter.unusedSimpArgs false
open Go.RowKit Go.Proofs.Ythgiiikjcfhgjaa.GU Go.Proofs.YthgiiikjcfhgjaaW.PrintWords Go.Proofs.YthgiiikjcfhgjaaW.PrintLast Go.Proofs.YthgiiikjcfhgjaaW.PrintMore

theorem sub_of_andNot {A B : Nat} (hA : A < 4294967296) (hB : B < 4294967296) (h : Go.bits .andNot .u32 (A : Int) (B : Int) = 0) : Sub A B := by
  intro i hi
  have h2 : IntKind.u32.wrap ((BitVec.ofInt 32 (A : Int) &&& ~~~ BitVec.ofInt 32 (B : Int)).toNat : Int) = 0 := h
  have hlt : (BitVec.ofInt 32 (A : Int) &&& ~~~ BitVec.ofInt 32 (B : Int)).toNat < 2 ^ 32 := BitVec.isLt _
  rw [IntKind.wrap_u32'] at h2
  have h3 : (BitVec.ofInt 32 (A : Int) &&& ~~~ BitVec.ofInt 32 (B : Int)).toNat = 0 := by omega
  have h4 : BitVec.ofInt 32 (A : Int) &&& ~~~ BitVec.ofInt 32 (B : Int) = 0#32 := BitVec.eq_of_toNat_eq (by rw [h3]; rfl)
  have h5 := congrArg (fun b => b.getLsbD i) h4
  simp only [BitVec.getLsbD_and, BitVec.getLsbD_not, BitVec.ofInt_natCast, BitVec.getLsbD_ofNat, hi] at h5
  have hi32 : i < 32 := by
    rcases Nat.lt_or_ge i 32 with h6 | h6
    · exact h6
    · have : A < 2 ^ i := Nat.lt_of_lt_of_le hA (Nat.pow_le_pow_right (n := 2) (by omega) h6)
      rw [Nat.testBit_lt_two_pow this] at hi
      exact absurd hi (by decide)
  cases hb : B.testBit i
  · rw [hb] at h5
    simp [hi32] at h5
  · rfl
theorem or_same {A B : Nat} (h : Sub A B) : B ||| A = B := by
  apply Nat.eq_of_testBit_eq
  intro i
  rw [Nat.testBit_or]
  cases ha : A.testBit i
  · rw [Bool.or_false]
  · rw [h i ha]; rfl
theorem lt_or {A B : Nat} (h : ¬ Sub A B) : B < B ||| A := by
  rcases Nat.lt_or_ge B (B ||| A) with h2 | h2
  · exact h2
  · have e : B ||| A = B := Nat.le_antisymm h2 Nat.left_le_or
    refine absurd (fun i hi => ?_) h
    rw [← e, Nat.testBit_or, hi, Bool.or_true]
theorem sum_set : ∀ (l : List Int) (i : Nat) (v : Int), i < l.length → (l.set i v).sum = l.sum - l.getD i 0 + v
  | [], i, v, h => absurd h (Nat.not_lt_zero _)
  | a :: l, 0, v, _ => by simp; omega
  | a :: l, i + 1, v, h => by
    have := sum_set l i v (by simpa using h)
    rw [List.set_cons_succ, List.sum_cons, List.sum_cons, this, List.getD_cons_succ]
    omega
theorem sum_le {B : Int} (hB : 0 ≤ B) : ∀ (l : List Int), (∀ e ∈ l, e ≤ B) → l.sum ≤ B * l.length
  | [], _ => by simp
  | a :: l, h => by
    have h1 := h a List.mem_cons_self
    have h2 := sum_le hB l (fun e he => h e (List.mem_cons_of_mem _ he))
    rw [List.sum_cons, List.length_cons, Int.natCast_succ, Int.mul_add]
    omega
def pot (T : List (List Int)) : Int := (T.map List.sum).sum
theorem pot_le {n : Int} {m : Nat} {T : List (List Int)} (h : Tab n m T) (hn : n ≤ 5) (hm : m ≤ 13) : pot T ≤ 600000 := by
  have hp := pow_le13 hm
  have h1 : ∀ s ∈ T.map List.sum, s ≤ 106496 := by
    intro s hs
    rw [List.mem_map] at hs
    obtain ⟨l, hl, rfl⟩ := hs
    have := sum_le (B := 8192) (by omega) l (fun e he => by have := h.ent l hl e he; omega)
    have hr := h.row l hl
    rw [hr] at this
    omega
  have := sum_le (B := 106496) (by omega) (T.map List.sum) h1
  have hl := h.len
  rw [List.length_map] at this
  unfold pot
  omega
/-- An entry, and more. -/
def updT (T : List (List Int)) (x i : Nat) (e : Nat) : List (List Int) := T.set x ((T.getD x []).set i ((((T.getD x []).getD i 0).toNat ||| e : Nat) : Int))
theorem getD_set {α : Type} {l : List α} {i j : Nat} {x d : α} (hi : i < l.length) : (l.set i x).getD j d = if j = i then x else l.getD j d := by
  rw [List.getD_eq_getElem?_getD, List.getElem?_set]
  by_cases c : i = j
  · subst c; simp [hi]
  · rw [if_neg c, if_neg (fun h => c h.symm), List.getD_eq_getElem?_getD]
theorem tb_upd {n : Int} {m : Nat} {T : List (List Int)} (h : Tab n m T) {x i e : Nat} (hx : (x : Int) < n) (hi : i < m) {y : Int} (hy : 0 ≤ y) (j : Nat) : tb (updT T x i e) y j = if y = (x : Int) ∧ j = i then tb T x i ||| e else tb T y j := by
  have hl := h.len
  have hr : (T.getD x []).length = m := h.row _ (getD_mem (by omega))
  unfold tb updT
  rw [getD_set (by omega), Int.toNat_natCast]
  by_cases c : y = (x : Int)
  · subst c
    rw [Int.toNat_natCast, if_pos rfl, getD_set (by omega)]
    by_cases c2 : j = i
    · rw [if_pos c2, if_pos ⟨rfl, c2⟩, Int.toNat_natCast]
    · rw [if_neg c2, if_neg (fun h => c2 h.2)]
  · rw [if_neg (show ¬ y.toNat = x by omega), if_neg (fun h => c h.1)]
theorem tab_upd {n : Int} {m : Nat} {T : List (List Int)} (h : Tab n m T) {x i e : Nat} (hx : (x : Int) < n) (hi : i < m) (he : e < 2 ^ m) : Tab n m (updT T x i e) := by
  have hl := h.len
  have hm : T.getD x [] ∈ T := getD_mem (by omega)
  have hr := h.row _ hm
  have hv := h.ent _ hm _ (getD_mem (d := (0 : Int)) (i := i) (by omega))
  unfold updT
  refine ⟨by rw [List.length_set]; exact hl, fun l hl2 => ?_, fun l hl2 e2 he2 => ?_⟩
  · rcases List.mem_or_eq_of_mem_set hl2 with h2 | h2
    · exact h.row l h2
    · rw [h2, List.length_set]; exact hr
  · rcases List.mem_or_eq_of_mem_set hl2 with h2 | h2
    · exact h.ent l h2 e2 he2
    · rw [h2] at he2
      rcases List.mem_or_eq_of_mem_set he2 with h3 | h3
      · exact h.ent _ hm _ h3
      · rw [h3, Int.toNat_natCast]
        exact ⟨Int.natCast_nonneg _, Nat.or_lt_two_pow hv.2 he⟩
theorem pot_upd {n : Int} {m : Nat} {T : List (List Int)} (h : Tab n m T) {x i e : Nat} (hx : (x : Int) < n) (hi : i < m) : pot (updT T x i e) = pot T - (tb T x i : Nat) + ((tb T x i ||| e : Nat) : Int) := by
  have hl := h.len
  have hm : T.getD x [] ∈ T := getD_mem (by omega)
  have hr := h.row _ hm
  have hv := h.ent _ hm _ (getD_mem (d := (0 : Int)) (i := i) (by omega))
  unfold pot updT
  rw [List.map_set, sum_set _ _ _ (by rw [List.length_map]; omega), sum_set _ _ _ (by omega)]
  have e1 : (T.map List.sum).getD x 0 = (T.getD x []).sum := by
    rw [List.getD_eq_getElem?_getD, List.getElem?_map, List.getD_eq_getElem?_getD, List.getElem?_eq_getElem (by omega)]; rfl
  rw [e1]
  unfold tb
  rw [Int.toNat_natCast]
  omega
theorem upd_same {n : Int} {m : Nat} {T : List (List Int)} (h : Tab n m T) {x i e : Nat} (hx : (x : Int) < n) (hi : i < m) (hs : Sub e (tb T x i)) : updT T x i e = T := by
  have hl := h.len
  have hm : T.getD x [] ∈ T := getD_mem (by omega)
  have hr := h.row _ hm
  have hv := h.ent _ hm _ (getD_mem (d := (0 : Int)) (i := i) (by omega))
  unfold tb at hs
  rw [Int.toNat_natCast] at hs
  unfold updT
  rw [or_same hs, Int.toNat_of_nonneg hv.1]
  have e1 : (T.getD x []).set i ((T.getD x []).getD i 0) = T.getD x [] := by
    rw [List.getD_eq_getElem?_getD (l := T.getD x []), List.getElem?_eq_getElem (by omega), Option.getD_some]
    exact List.set_getElem_self _
  rw [e1, List.getD_eq_getElem?_getD, List.getElem?_eq_getElem (by omega), Option.getD_some]
  exact List.set_getElem_self _
end Go.Proofs.Ythgiiikjcfhgjaa.PUM
