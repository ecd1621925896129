/- Words on bits and on words in plain Lean: what machine.Words answers. Conditions: none beyond the kinds of the arguments. -/
import Derived.Test.YtiiankjmeodjdaaEv
import Derived.Laws.BitsAllLaws
import Derived.Test.YtiiankjmeodjdaaGT1
namespace Go.Proofs.Ytiiankjmeodjdaa.PTM
set_option linter.unusedVariables false
set_option linter.unusedSimpArgs false
open Go.RowKit Go.Proofs.Ytiiankjmeodjdaa.GT Go.Proofs.YtiiankjmeodjdaaW.PrintWords Go.Proofs.YtiiankjmeodjdaaW.PrintLast Go.Proofs.YtiiankjmeodjdaaW.PrintMore

/-- A bit of a number. -/
def bit (x : Int) (i : Int) : Bool := x.toNat.testBit i.toNat
theorem shr_nat (X n : Nat) : shr .u32 (X : Int) (n : Int) = ((X / 2 ^ min n 32 : Nat) : Int) := by
  unfold shr
  rw [Int.toNat_natCast]
  simp [IntKind.bits]
theorem div_big {X n : Nat} (hX : X < 4294967296) (h : 32 ≤ n) : X / 2 ^ n = 0 := by
  apply Nat.div_eq_of_lt
  calc X < 2 ^ 32 := hX
    _ ≤ 2 ^ n := Nat.pow_le_pow_right (by omega) h
theorem div_min {X : Nat} (hX : X < 4294967296) (n : Nat) : X / 2 ^ min n 32 = X / 2 ^ n := by
  rcases Nat.le_total n 32 with h | h
  · rw [Nat.min_eq_left h]
  · rw [Nat.min_eq_right h, div_big hX h, div_big hX (Nat.le_refl 32)]
theorem shr_bit {x : Int} (h0 : 0 ≤ x) (h1 : x < 4294967296) {n : Int} (hn : 0 ≤ n) : Go.bits .and .u32 (shr .u32 x n) 1 = if bit x n then 1 else 0 := by
  obtain ⟨X, rfl⟩ := Int.eq_ofNat_of_zero_le h0
  obtain ⟨m, rfl⟩ := Int.eq_ofNat_of_zero_le hn
  have hX : X < 4294967296 := by omega
  have hd : X / 2 ^ m < 4294967296 := Nat.lt_of_le_of_lt (Nat.div_le_self _ _) hX
  show Go.bits .and .u32 (shr .u32 (X : Int) (m : Int)) ((1 : Nat) : Int) = _
  rw [shr_nat, div_min hX, u32_and_nat _ _ hd (by omega), Nat.and_one_is_mod]
  show _ = if (X.testBit m) = true then 1 else 0
  rw [Nat.testBit_eq_decide_div_mod_eq]
  by_cases e : X / 2 ^ m % 2 = 1
  · rw [e]; simp
  · rw [if_neg (by simpa using e), show X / 2 ^ m % 2 = 0 by omega]; rfl
theorem shr_zero {x : Int} (h0 : 0 ≤ x) (h1 : x < 4294967296) {n : Int} (hn : 0 ≤ n) : shr .u32 x n = 0 ↔ x < 2 ^ n.toNat := by
  obtain ⟨X, rfl⟩ := Int.eq_ofNat_of_zero_le h0
  obtain ⟨m, rfl⟩ := Int.eq_ofNat_of_zero_le hn
  have hX : X < 4294967296 := by omega
  show shr .u32 (X : Int) (m : Int) = 0 ↔ _
  rw [shr_nat, div_min hX, Int.toNat_natCast]
  have e : ((2 : Int) ^ m) = ((2 ^ m : Nat) : Int) := by simp
  have hp : 0 < 2 ^ m := Nat.pow_pos (by omega)
  have hd : X / 2 ^ m = 0 ↔ X < 2 ^ m := by rw [Nat.div_eq_zero_iff]; omega
  show ((X / 2 ^ m : Nat) : Int) = 0 ↔ (X : Int) < 2 ^ m
  rw [e]
  omega
theorem shl_one {n : Int} (hn : 0 ≤ n) (h : n < 32) : shl .u32 1 n = 2 ^ n.toNat := by
  obtain ⟨m, rfl⟩ := Int.eq_ofNat_of_zero_le hn
  unfold shl
  rw [Int.toNat_natCast, Nat.min_eq_left (by simp [IntKind.bits]; omega), IntKind.wrap_u32']
  have hp : (2 : Nat) ^ m < 2 ^ 32 := Nat.pow_lt_pow_right (by omega) (by omega)
  have e : ((2 : Int) ^ m) = ((2 ^ m : Nat) : Int) := by simp
  rw [e, Int.one_mul]
  exact Int.emod_eq_of_lt (Int.natCast_nonneg _) (by have := Int.ofNat_lt.2 hp; simpa using this)

theorem u64_small {n : Int} (h0 : 0 ≤ n) (h1 : n < 18446744073709551616) : IntKind.u64.wrap n = n := by
  rw [IntKind.wrap_u64]; exact Int.emod_eq_of_lt h0 h1
/-- A word that fits its symbols. -/
def GoodW (k : Int) (w : List Int) : Prop := w.length ≤ 12 ∧ ∀ s ∈ w, 0 ≤ s ∧ s < k
theorem words_spec (k : Int) (w : List Int) : ∃ e, machine_Words.f k w = some e ∧ (e = 0 ↔ GoodW k w) := by
  refine ⟨_, rfl, ?_⟩
  unfold GoodW
  by_cases h : w.length > 12
  · rw [if_pos h]
    exact ⟨fun h' => absurd h' (by decide), fun h' => by omega⟩
  · rw [if_neg h]
    by_cases h2 : w.any (fun s => decide (s < 0) || decide (s ≥ k)) = true
    · rw [if_pos h2]
      refine ⟨fun h' => absurd h' (by decide), fun h' => ?_⟩
      rw [List.any_eq_true] at h2
      obtain ⟨s, hs, hb⟩ := h2
      have := h'.2 s hs
      simp at hb
      omega
    · rw [if_neg h2]
      refine ⟨fun _ => ⟨by omega, fun s hs => ?_⟩, fun _ => rfl⟩
      have := fun h3 => h2 (List.any_eq_true.2 ⟨s, hs, h3⟩)
      simp at this
      omega
theorem drop_cons {α : Type} {l : List α} {i : Nat} (h : i < l.length) (d : α) : l.drop i = l.getD i d :: l.drop (i + 1) := by
  rw [List.drop_eq_getElem_cons h, List.getD_eq_getElem?_getD, List.getElem?_eq_getElem h, Option.getD_some]
def okN (n : Int) (x : Int) : Bool := decide (0 ≤ x) && decide (x < n)
theorem okN_iff {n x : Int} : okN n x = true ↔ 0 ≤ x ∧ x < n := by simp [okN]
end Go.Proofs.Ytiiankjmeodjdaa.PTM
