/- The law LyndonOne (of bounded arguments), as plain Lean: low words, none less than the next one, are the parts of the word that they make. Conditions: the arguments' bulk is bounded. -/
import Derived.Test.YtkjhddjenkocjaaPLParts
import Derived.Test.YtkjhddjenkocjaaPLBytes
import Derived.Test.YtkjhddjenkocjaaGL5
namespace Go.Proofs.Ytkjhddjenkocjaa.Pure
set_option linter.unusedVariables false
set_option linter.unusedSimpArgs false
open Go.RowKit Go.Proofs.Ytkjhddjenkocjaa.GL Go.Proofs.Ytkjhddjenkocjaa.PureL Go.Proofs.YtkjhddjenkocjaaW.PrintWords Go.Proofs.YtkjhddjenkocjaaW.PrintLast

theorem rdP_nat (xs : List (List Int)) (i : Nat) : rd_L1 xs (i : Int) = xs.getD i [] := by simp [rd_L1]
theorem falls_of : ∀ (Q : List (List Int)), (∀ j, j + 1 < Q.length → ¬ Q.getD j [] < Q.getD (j + 1) []) → Falls Q
  | [], _ => trivial
  | [p], _ => ⟨fun q hq => absurd hq (by simp), trivial⟩
  | p :: r :: Q, h => by
    have ih := falls_of (r :: Q) (fun j hj => by simpa using h (j + 1) (by simpa using hj))
    have h0 : ¬ p < r := by simpa using h 0 (by simp)
    refine ⟨fun q hq => ?_, ih⟩
    rcases List.mem_cons.1 hq with e | e
    · rw [e]; exact h0
    · exact ll_not_trans h0 (ih.1 q e)
theorem same_loop (P : List (List Int)) (hP : P.length ≤ 1048576) (hb : ∀ p ∈ P, p.length ≤ 60) : ∀ (d i : Nat), i + d = P.length → Ev (fun q => coppicerkeep_LyndonOne.l1 q P P (i : Int)) true := by
  intro d
  induction d with
  | zero =>
    intro i hi
    exact Ev.step (fun q => by rw [coppicerkeep_LyndonOne.l1]) (Ev.neg (by omega) (Ev.now _))
  | succ d ih =>
    intro i hi
    refine Ev.step (fun q => by rw [coppicerkeep_LyndonOne.l1]) (Ev.pos (by omega) (Ev.pos (by omega) (Ev.pos (by omega) ?_)))
    rw [rdP_nat, w64 (n := (i : Int) + 1) (by omega) (by omega)]
    have := hb _ (getD_mem (d := ([] : List Int)) (show i < P.length by omega))
    refine Ev.bind (by_spec (P.getD i []) (P.getD i []) (by omega)) (Ev.pos (decide_eq_true rfl) ?_)
    exact ih (i + 1) (by omega)
theorem one_loop (P : List (List Int)) (hP : P.length ≤ 1048576) (hB : ∀ p ∈ P, isB p) : ∀ (d i : Nat), i + d = P.length → (∀ j, j < i → Lyn (P.getD j []) ∧ (P.getD j []).length ≤ 60) → (∀ j, j + 1 < i → ¬ P.getD j [] < P.getD (j + 1) []) → (P.take i).flatten.length ≤ 60 * i → Ev (fun q => coppicerkeep_LyndonOne.l0 q P (P.take i).flatten (P.length : Int) (i : Int)) true := by
  intro d
  induction d with
  | zero =>
    intro i hi h1 h2 h3
    obtain rfl : i = P.length := by omega
    rw [List.take_length] at h3 ⊢
    have hL : ∀ q ∈ P, Lyn q ∧ q.length ≤ 60 := fun q hq => by
      obtain ⟨j, hj, rfl⟩ := List.getElem_of_mem hq
      have := h1 j hj
      rw [List.getD_eq_getElem?_getD, List.getElem?_eq_getElem hj] at this
      exact this
    obtain ⟨r, r1, r2, r3⟩ := parts_spec (fun q hq => (hL q hq).1) (falls_of P h2)
    refine Ev.step (fun q => by rw [coppicerkeep_LyndonOne.l0]) (Ev.neg (by omega) (Ev.bind r1 (Ev.bind (lon_spec [P.flatten] (by simp)) ?_)))
    by_cases c : 60 < P.flatten.length
    · refine Ev.pos (by simp [any60, -List.length_flatten]; omega) (Ev.val ?_)
      rw [r2 c]; rfl
    · refine Ev.neg (by simp [any60, -List.length_flatten]; omega) ?_
      rw [r3 (by omega)]
      refine Ev.pos rfl (Ev.step (fun q => by rw [coppicerkeep_LyndonOne.j1]) (Ev.neg (by simp) ?_))
      exact same_loop P hP (fun p hp => (hL p hp).2) P.length 0 (by omega)
  | succ d ih =>
    intro i hi h1 h2 h3
    have hlt : i < P.length := by omega
    have hm : P.getD i [] ∈ P := getD_mem hlt
    have bp := hB _ hm
    have hc := is_spec (P.getD i []) bp
    have htake : (P.take (i + 1)).flatten = (P.take i).flatten ++ P.getD i [] := by
      rw [List.take_succ_eq_append_getElem hlt, List.flatten_append, List.flatten_cons, List.flatten_nil, List.append_nil, List.getD_eq_getElem?_getD, List.getElem?_eq_getElem hlt, Option.getD_some]
    have pre : ∀ {r : Bool} {b : Bool × Int}, Ev (fun q => lyndon_Is.f q (P.getD i [])) b → Ev (fun q => if b.2 = 0 then ((coppicerref_Low.f q (P.getD i [])).bind fun t130 => (if (b.1 != t130) = true then (some false) else (if b.1 = true then (if (i : Int) > 0 then (if 0 ≤ (wrap64 ((i : Int) - 1)) then (if (wrap64 ((i : Int) - 1)) < (P.length : Int) then ((coppicerref_Less.f q (rd_L1 P (wrap64 ((i : Int) - 1))) (P.getD i [])).bind fun t132 => (if t132 = true then (some true) else (if (P.take i).flatten.length + (P.getD i []).length < 140737488355328 then (coppicerkeep_LyndonOne.l0 q P ((P.take i).flatten ++ P.getD i []) (P.length : Int) ((i + 1 : Nat) : Int)) else (none)))) else (none)) else (none)) else (if (P.take i).flatten.length + (P.getD i []).length < 140737488355328 then (coppicerkeep_LyndonOne.l0 q P ((P.take i).flatten ++ P.getD i []) (P.length : Int) ((i + 1 : Nat) : Int)) else (none))) else (some true)))) else ((coppicerkeep_long.f q (([P.getD i []] : List (List Int)))).bind fun t129 => (some t129))) r → Ev (fun q => coppicerkeep_LyndonOne.l0 q P (P.take i).flatten (P.length : Int) (i : Int)) r := by
      intro r b hb h
      refine Ev.step (fun q => by rw [coppicerkeep_LyndonOne.l0]) (Ev.pos (by omega) (Ev.pos (by omega) (Ev.pos (by omega) ?_)))
      rw [rdP_nat, w64 (n := (i : Int) + 1) (by omega) (by omega)]
      exact Ev.bind hb h
    by_cases c : 60 < (P.getD i []).length
    · rw [if_pos c] at hc
      refine pre hc (Ev.neg (by decide) (Ev.bind (lon_spec [P.getD i []] (by simp)) (Ev.val ?_)))
      simp [any60, -List.getD_eq_getElem?_getD]; omega
    · rw [if_neg c] at hc
      refine pre hc (Ev.pos rfl (Ev.bind (low_spec _ (by omega)) (Ev.neg (by simp) ?_)))
      by_cases c2 : lynB (P.getD i []) = true
      · refine Ev.pos c2 ?_
        have hly := (lynB_iff _).1 c2
        have next : (∀ j, j + 1 < i + 1 → ¬ P.getD j [] < P.getD (j + 1) []) → Ev (fun q => if (P.take i).flatten.length + (P.getD i []).length < 140737488355328 then (coppicerkeep_LyndonOne.l0 q P ((P.take i).flatten ++ P.getD i []) (P.length : Int) ((i + 1 : Nat) : Int)) else (none)) true := fun hadj => by
          refine Ev.pos (by omega) ?_
          rw [← htake]
          refine ih (i + 1) (by omega) (fun j hj => ?_) hadj (by rw [htake, List.length_append]; omega)
          rcases Nat.eq_or_lt_of_le (Nat.le_of_lt_succ hj) with e | e
          · subst e; exact ⟨hly, by omega⟩
          · exact h1 j e
        by_cases c3 : (i : Int) > 0
        · refine Ev.pos c3 ?_
          rw [w64 (n := (i : Int) - 1) (by omega) (by omega), show (i : Int) - 1 = ((i - 1 : Nat) : Int) by omega, rdP_nat]
          have l1 := (h1 (i - 1) (by omega)).2
          refine Ev.pos (by omega) (Ev.pos (by omega) (Ev.bind (less_spec _ _ (by omega)) ?_))
          by_cases c4 : P.getD (i - 1) [] < P.getD i []
          · exact Ev.pos (decide_eq_true c4) (Ev.now _)
          · refine Ev.neg (by rw [decide_eq_true_iff]; exact c4) (next (fun j hj => ?_))
            rcases Nat.eq_or_lt_of_le (show j + 1 ≤ i by omega) with e | e
            · rw [e, show j = i - 1 by omega]; exact c4
            · exact h2 j e
        · exact Ev.neg c3 (next (fun j hj => by omega))
      · exact Ev.neg c2 (Ev.now _)
theorem LyndonOne : coppicerkeep_LyndonOne.Pure := by
  intro P ⟨_, _, wP⟩ hP
  have hB : ∀ p ∈ P, isB p := fun p hp => isB_wf (wP p hp).2.2
  refine Ev.rounds ?_
  refine Ev.congr (fun q => by rw [coppicerkeep_LyndonOne.f]) ?_
  exact one_loop P hP hB P.length 0 (by omega) (fun j hj => absurd hj (Nat.not_lt_zero _)) (fun j hj => by omega) (by simp)
end Go.Proofs.Ytkjhddjenkocjaa.Pure
