/- Plain facts on the printed functions power.large, power.has, power.Period, long and gcd. -/
import Derived.Test.YtancbigkdjbhnaaGA6
import Derived.Test.YtancbigkdjbhnaaGA7
import Derived.Test.YtancbigkdjbhnaaEv
namespace Go.Proofs.Ytancbigkdjbhnaa.Pure
set_option linter.unusedVariables false
set_option linter.unusedSimpArgs false
open Go.RowKit Go.Proofs.Ytancbigkdjbhnaa.GA Go.Proofs.YtancbigkdjbhnaaW.PrintWords Go.Proofs.YtancbigkdjbhnaaW.PrintLast

def isB (l : List Int) : Prop := ∀ x ∈ l, 0 ≤ x ∧ x ≤ 255
theorem isB_take {l : List Int} (h : isB l) (n : Nat) : isB (l.take n) := fun x hx => h x (List.mem_of_mem_take hx)
theorem isB_drop {l : List Int} (h : isB l) (n : Nat) : isB (l.drop n) := fun x hx => h x (List.mem_of_mem_drop hx)
theorem isB_wf {l : List Int} (h : ∀ y_ ∈ l, (Lit.int .u8 y_).wf = true) : isB l := fun x hx => wf_u8 (h x hx)
def any60 (xs : List (List Int)) : Bool := xs.any fun x => decide (60 < x.length)
theorem lar_loop (xs : List (List Int)) (hl : xs.length ≤ 100) : ∀ (d i : Nat), i + d = xs.length → Ev (fun k => power_large.l0 k xs (xs.length : Int) (i : Int)) (any60 (xs.drop i)) := by
  intro d
  induction d with
  | zero =>
    intro i hi
    refine Ev.step (fun k => by rw [power_large.l0]) (Ev.neg (by omega) (Ev.eq (Ev.now _) ?_))
    rw [List.drop_eq_nil_of_le (by omega)]; rfl
  | succ d ih =>
    intro i hi
    refine Ev.step (fun k => by rw [power_large.l0]) (Ev.pos (by omega) (Ev.pos (by omega) (Ev.pos (by omega) ?_)))
    have e : rd_L1 xs (i : Int) = xs[i]'(by omega) := by simp [rd_L1, List.getD_eq_getElem?_getD, List.getElem?_eq_getElem (by omega : i < xs.length)]
    rw [e, List.drop_eq_getElem_cons (by omega : i < xs.length), w64 (by omega) (by omega)]
    by_cases h : 60 < (xs[i]'(by omega)).length
    · exact Ev.pos (by omega) (Ev.eq (Ev.now _) (by simp only [any60, List.any_cons]; rw [decide_eq_true h, Bool.true_or]))
    · exact Ev.neg (by omega) (Ev.eq (ih (i + 1) (by omega)) (by simp only [any60, List.any_cons]; rw [decide_eq_false h, Bool.false_or]))
theorem lar_spec (xs : List (List Int)) (hl : xs.length ≤ 100) : Ev (fun k => power_large.f k xs) (any60 xs) := by
  unfold power_large.f
  exact lar_loop xs hl xs.length 0 (by omega)
theorem lon_loop (xs : List (List Int)) (hl : xs.length ≤ 100) : ∀ (d i : Nat), i + d = xs.length → Ev (fun k => coppicerkeep_long.l0 k xs (xs.length : Int) (i : Int)) (any60 (xs.drop i)) := by
  intro d
  induction d with
  | zero =>
    intro i hi
    refine Ev.step (fun k => by rw [coppicerkeep_long.l0]) (Ev.neg (by omega) (Ev.eq (Ev.now _) ?_))
    rw [List.drop_eq_nil_of_le (by omega)]; rfl
  | succ d ih =>
    intro i hi
    refine Ev.step (fun k => by rw [coppicerkeep_long.l0]) (Ev.pos (by omega) (Ev.pos (by omega) (Ev.pos (by omega) ?_)))
    have e : rd_L1 xs (i : Int) = xs[i]'(by omega) := by simp [rd_L1, List.getD_eq_getElem?_getD, List.getElem?_eq_getElem (by omega : i < xs.length)]
    rw [e, List.drop_eq_getElem_cons (by omega : i < xs.length), w64 (by omega) (by omega)]
    by_cases h : 60 < (xs[i]'(by omega)).length
    · exact Ev.pos (by omega) (Ev.eq (Ev.now _) (by simp only [any60, List.any_cons]; rw [decide_eq_true h, Bool.true_or]))
    · exact Ev.neg (by omega) (Ev.eq (ih (i + 1) (by omega)) (by simp only [any60, List.any_cons]; rw [decide_eq_false h, Bool.false_or]))
theorem lon_spec (xs : List (List Int)) (hl : xs.length ≤ 100) : Ev (fun k => coppicerkeep_long.f k xs) (any60 xs) := by
  unfold coppicerkeep_long.f
  exact lon_loop xs hl xs.length 0 (by omega)
/-- Is p a period? -/
def perB (l : List Int) (p : Int) : Bool := decide (1 ≤ p ∧ p ≤ l.length ∧ l.drop p.toNat = l.take (l.length - p.toNat))
theorem eqB_spec (a b : List Int) (ha : isB a) (hb : isB b) : bytes_Equal.f a b = some (decide (a = b)) := by unfold bytes_Equal.f; rw [chars_eq ha hb]
theorem has_spec (l : List Int) (hl : l.length ≤ 60) (hb : isB l) (p : Int) : power_has.f l p = some (perB l p) := by
  unfold power_has.f perB
  by_cases h1 : p ≥ 1
  · rw [if_pos h1]
    by_cases h2 : p ≤ (l.length : Int)
    · rw [if_pos h2, if_pos (by omega), w64 (by omega) (by omega), if_pos (by omega), if_pos (by omega), eqB_spec _ _ (isB_drop hb _) (isB_take hb _), Option.bind_some,
        show ((l.length : Int) - p).toNat = l.length - p.toNat by omega]
      simp only [Option.some.injEq, decide_eq_decide]
      exact ⟨fun h => ⟨by omega, by omega, h⟩, fun h => h.2.2⟩
    · rw [if_neg h2]; simp only [Option.some.injEq]; symm; rw [decide_eq_false_iff_not]; omega
  · rw [if_neg h1]; simp only [Option.some.injEq]; symm; rw [decide_eq_false_iff_not]; omega
theorem period_spec (l : List Int) (hb : isB l) (p : Int) : Ev (fun k => power_Period.f k l p) (if 60 < l.length then (false, 1) else (perB l p, 0)) := by
  unfold power_Period.f
  refine Ev.bind (lar_spec _ (by simp)) ?_
  by_cases h : 60 < l.length
  · refine Ev.pos (by simp [any60, h]) (Ev.eq (Ev.now _) (by rw [if_pos h]))
  · refine Ev.neg (by simp [any60, h]) (Ev.bindc (has_spec l (by omega) hb p) (Ev.eq (Ev.now _) (by rw [if_neg h])))
theorem period_spec' (l : List Int) (hb : isB l) (hl : l.length ≤ 60) (p : Int) : Ev (fun k => power_Period.f k l p) (perB l p, 0) := Ev.eq (period_spec l hb p) (if_neg (by omega))
/-- A period, place by place. -/
theorem perB_iff (l : List Int) (p : Nat) (h1 : 1 ≤ p) (h2 : p ≤ l.length) : perB l (p : Int) = true ↔ ∀ i, i + p < l.length → l.getD i 0 = l.getD (i + p) 0 := by
  unfold perB
  rw [decide_eq_true_iff]
  constructor
  · rintro ⟨_, _, h⟩ i hi
    have := congrArg (fun x => x.getD i 0) h
    simp only [Int.toNat_natCast, List.getD_eq_getElem?_getD, List.getElem?_drop, List.getElem?_take] at this
    rw [if_pos (by omega)] at this
    simp only [List.getD_eq_getElem?_getD]
    rw [← this, Nat.add_comm]
  · intro h
    refine ⟨by omega, by omega, List.ext_getElem (by simp <;> omega) fun i h3 h4 => ?_⟩
    simp only [Int.toNat_natCast] at h3 h4 ⊢
    have h5 : i + p < l.length := by simp at h3; omega
    have := h i h5
    simp only [List.getD_eq_getElem?_getD, List.getElem?_eq_getElem h5, List.getElem?_eq_getElem (show i < l.length by omega), Option.getD_some] at this
    simp only [List.getElem_drop, List.getElem_take]
    rw [this]
    congr 1; omega
theorem gcd_spec : ∀ (b a : Nat), Ev (fun k => coppicerkeep_gcd.f k (a : Int) (b : Int)) (Nat.gcd b a : Int) := by
  intro b
  unfold coppicerkeep_gcd.f
  induction b using Nat.strongRecOn with
  | ind b ih =>
    intro a
    by_cases hb : b = 0
    · subst hb
      exact Ev.step (fun k => by rw [coppicerkeep_gcd.l0]) (Ev.neg (by omega) (Ev.eq (Ev.now _) (by simp)))
    · refine Ev.step (fun k => by rw [coppicerkeep_gcd.l0]) (Ev.pos (by omega) (Ev.neg (by omega) ?_))
      have := ih (a % b) (Nat.mod_lt _ (by omega)) b
      rw [tm (by omega), ← Int.natCast_emod]
      exact Ev.eq this (by rw [← Nat.gcd_rec])
end Go.Proofs.Ytancbigkdjbhnaa.Pure
