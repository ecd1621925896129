/- Common beginnings of the ends of a word, end by end in order: what is carried from place to place, in plain Lean. Conditions: none. -/
import Derived.Test.YtkalcljgcigdgaaEv
namespace Go.Proofs.Ytkalcljgcigdgaa.PEM
set_option linter.unusedVariables false
set_option linter.unusedSimpArgs false

def lexL : List Int → List Int → Bool
  | _, [] => false
  | [], _ :: _ => true
  | x :: a, y :: b => decide (x < y) || (x == y && lexL a b)
def lcpL : List Int → List Int → Nat
  | x :: a, y :: b => if x = y then lcpL a b + 1 else 0
  | _, _ => 0
theorem lexL_nil (a : List Int) : lexL a [] = false := by cases a <;> rfl
theorem lexL_cons {x : Int} {a b : List Int} : lexL (x :: a) (x :: b) = lexL a b := by simp [lexL]
theorem lcpL_cons {x : Int} {a b : List Int} : lcpL (x :: a) (x :: b) = lcpL a b + 1 := by simp [lcpL]
theorem lexL_irrefl : ∀ a : List Int, lexL a a = false
  | [] => rfl
  | x :: a => by rw [lexL_cons]; exact lexL_irrefl a
theorem lexL_trans : ∀ {a b c : List Int}, lexL a b = true → lexL b c = true → lexL a c = true
  | _, _, [], _, h => by rw [lexL_nil] at h; cases h
  | _, [], _ :: _, h, _ => by rw [lexL_nil] at h; cases h
  | [], _ :: _, _ :: _, _, _ => rfl
  | x :: a, y :: b, z :: c, h1, h2 => by
    simp only [lexL, Bool.or_eq_true, decide_eq_true_iff, Bool.and_eq_true, beq_iff_eq] at h1 h2 ⊢
    rcases h1 with h1 | ⟨rfl, h1⟩
    · rcases h2 with h2 | ⟨rfl, h2⟩
      · left; omega
      · left; exact h1
    · rcases h2 with h2 | ⟨rfl, h2⟩
      · left; exact h2
      · right; exact ⟨rfl, lexL_trans h1 h2⟩
theorem lexL_total : ∀ {a b : List Int}, lexL a b = false → lexL b a = false → a = b
  | [], [], _, _ => rfl
  | [], _ :: _, h, _ => by cases h
  | _ :: _, [], _, h => by cases h
  | x :: a, y :: b, h1, h2 => by
    simp only [lexL, Bool.or_eq_false_iff, decide_eq_false_iff_not, Bool.and_eq_false_iff, beq_eq_false_iff_ne] at h1 h2
    obtain rfl : x = y := by omega
    rw [lexL_total (a := a) (b := b) (by rcases h1.2 with h | h; exact absurd rfl h; exact h) (by rcases h2.2 with h | h; exact absurd rfl h; exact h)]
/-- Of three in order the outer ones have no more in common. -/
theorem lcp_mid : ∀ {a b c : List Int}, (a = b ∨ lexL a b = true) → lexL b c = true → lcpL a c ≤ lcpL b c
  | [], _, _, _, _ => by simp [lcpL]
  | _ :: _, _, [], _, h => by rw [lexL_nil] at h; cases h
  | x :: a, [], _ :: _, h1, _ => by
    rcases h1 with h | h
    · cases h
    · rw [lexL_nil] at h; cases h
  | x :: a, y :: b, z :: c, h1, h2 => by
    rcases h1 with h1 | h1
    · rw [h1]; exact Nat.le_refl _
    · by_cases hxz : x = z
      · subst hxz
        have hxy : x = y := by
          simp only [lexL, Bool.or_eq_true, decide_eq_true_iff, Bool.and_eq_true, beq_iff_eq] at h1 h2
          omega
        subst hxy
        rw [lexL_cons] at h1 h2
        rw [lcpL_cons, lcpL_cons]
        have := lcp_mid (Or.inr h1) h2
        omega
      · simp [lcpL, hxz]
theorem lcp_le_left : ∀ (a b : List Int), lcpL a b ≤ a.length
  | [], _ => by simp [lcpL]
  | _ :: _, [] => by simp [lcpL]
  | x :: a, y :: b => by
    unfold lcpL
    split
    · have := lcp_le_left a b; rw [List.length_cons]; omega
    · omega
theorem lcp_comm : ∀ (a b : List Int), lcpL a b = lcpL b a
  | [], [] => rfl
  | [], _ :: _ => rfl
  | _ :: _, [] => rfl
  | x :: a, y :: b => by
    by_cases h : x = y
    · subst h; rw [lcpL_cons, lcpL_cons, lcp_comm a b]
    · simp [lcpL, h, Ne.symm h]
/-- Is there one more in common? -/
theorem lcp_step : ∀ (a b : List Int) (h : Nat), h ≤ lcpL a b → (h < lcpL a b ↔ h < a.length ∧ h < b.length ∧ a.getD h 0 = b.getD h 0)
  | [], b, h, hh => by simp [lcpL]
  | _ :: _, [], h, hh => by simp [lcpL]
  | x :: a, y :: b, 0, hh => by
    by_cases e : x = y
    · simp [lcpL, e]
    · simp [lcpL, e]
  | x :: a, y :: b, h + 1, hh => by
    by_cases e : x = y
    · subst e
      rw [lcpL_cons] at hh ⊢
      have := lcp_step a b h (by omega)
      simp only [List.length_cons, List.getD_cons_succ]
      omega
    · simp [lcpL, e] at hh
/-- The same of two ends of one word. -/
theorem lcp_drop {w : List Int} {i j h : Nat} (hh : h ≤ lcpL (w.drop i) (w.drop j)) (hi : i ≤ w.length) (hj : j ≤ w.length) : h < lcpL (w.drop i) (w.drop j) ↔ i + h < w.length ∧ j + h < w.length ∧ w.getD (i + h) 0 = w.getD (j + h) 0 := by
  rw [lcp_step _ _ h hh, List.length_drop, List.length_drop]
  simp only [List.getD_eq_getElem?_getD, List.getElem?_drop]
  constructor
  · rintro ⟨a, b, c⟩; exact ⟨by omega, by omega, c⟩
  · rintro ⟨a, b, c⟩; exact ⟨by omega, by omega, c⟩
/-- The ends of w in order. -/
structure OrdL (w : List Int) (l : List Int) : Prop where
  len : l.length = w.length
  inr : ∀ k, k < w.length → 0 ≤ l.getD k 0 ∧ l.getD k 0 < w.length
  all : ∀ i : Nat, i < w.length → ∃ k, k < w.length ∧ l.getD k 0 = i
  inj : ∀ k k', k < w.length → k' < w.length → l.getD k 0 = l.getD k' 0 → k = k'
  asc : ∀ k k', k < k' → k' < w.length → lexL (w.drop (l.getD k 0).toNat) (w.drop (l.getD k' 0).toNat) = true
theorem OrdL.rank_lt {w l : List Int} (h : OrdL w l) {k k' : Nat} (hk : k < w.length) (hk' : k' < w.length) (hl : lexL (w.drop (l.getD k 0).toNat) (w.drop (l.getD k' 0).toNat) = true) : k < k' := by
  rcases Nat.lt_trichotomy k k' with c | c | c
  · exact c
  · subst c; rw [lexL_irrefl] at hl; cases hl
  · have := lexL_trans hl (h.asc k' k c hk)
    rw [lexL_irrefl] at this; cases this
/-- KASAI: from a place to the next one no more than one is lost. -/
theorem OrdL.next {w l : List Int} (h : OrdL w l) {r r' i : Nat} (hr : 0 < r) (hrn : r < w.length) (hi : l.getD r 0 = (i : Int)) (hr' : 0 < r') (hrn' : r' < w.length) (hi' : l.getD r' 0 = ((i + 1 : Nat) : Int)) :
    lcpL (w.drop i) (w.drop (l.getD (r - 1) 0).toNat) - 1 ≤ lcpL (w.drop (i + 1)) (w.drop (l.getD (r' - 1) 0).toNat) := by
  have hj := h.inr (r - 1) (by omega)
  obtain ⟨j, ej⟩ := Int.eq_ofNat_of_zero_le hj.1
  have hasc := h.asc (r - 1) r (by omega) hrn
  rw [ej, hi, Int.toNat_natCast, Int.toNat_natCast] at hasc
  rw [ej, Int.toNat_natCast]
  have hjn : j < w.length := by rw [ej] at hj; omega
  have hin : i < w.length := by have := (h.inr r hrn).2; rw [hi] at this; omega
  by_cases h2 : lcpL (w.drop i) (w.drop j) ≤ 1
  · omega
  have di : w.drop i = w.getD i 0 :: w.drop (i + 1) := by rw [List.drop_eq_getElem_cons hin, List.getD_eq_getElem?_getD, List.getElem?_eq_getElem hin, Option.getD_some]
  have dj : w.drop j = w.getD j 0 :: w.drop (j + 1) := by rw [List.drop_eq_getElem_cons hjn, List.getD_eq_getElem?_getD, List.getElem?_eq_getElem hjn, Option.getD_some]
  have e0 : w.getD i 0 = w.getD j 0 := by
    have := (lcp_drop (w := w) (i := i) (j := j) (h := 0) (Nat.zero_le _) (by omega) (by omega)).1 (by omega)
    simpa using this.2.2
  rw [di, dj, ← e0, lcpL_cons] at h2 ⊢
  rw [di, dj, ← e0, lexL_cons] at hasc
  have hlen := lcp_le_left (w.drop (i + 1)) (w.drop (j + 1))
  have hlen2 := lcp_le_left (w.drop (j + 1)) (w.drop (i + 1))
  rw [lcp_comm] at hlen2
  rw [List.length_drop] at hlen hlen2
  obtain ⟨k, hk, ek⟩ := h.all (j + 1) (by omega)
  have hkr : k < r' := h.rank_lt hk hrn' (by rw [ek, hi', Int.toNat_natCast, Int.toNat_natCast]; exact hasc)
  have hb := h.asc (r' - 1) r' (by omega) hrn'
  rw [hi', Int.toNat_natCast] at hb
  have hab : w.drop (j + 1) = w.drop (l.getD (r' - 1) 0).toNat ∨ lexL (w.drop (j + 1)) (w.drop (l.getD (r' - 1) 0).toNat) = true := by
    by_cases e : k = r' - 1
    · left; rw [← e, ek, Int.toNat_natCast]
    · right
      have := h.asc k (r' - 1) (by omega) (by omega)
      rw [ek, Int.toNat_natCast] at this
      exact this
  have := lcp_mid hab hb
  rw [lcp_comm (w.drop (j + 1)), lcp_comm (w.drop (l.getD (r' - 1) 0).toNat)] at this
  omega
end Go.Proofs.Ytkalcljgcigdgaa.PEM
