/- Words on machines in plain Lean: what the reference's check answers. Conditions: none beyond the kinds of the arguments. -/
import Derived.Test.YtiiankjmeodjdaaPGMachine
import Derived.Test.YtiiankjmeodjdaaGG5
namespace Go.Proofs.Ytiiankjmeodjdaa.PGM
set_option linter.unusedVariables false
set_option linter.unusedSimpArgs false
open Go.RowKit Go.Proofs.Ytiiankjmeodjdaa.GG Go.Proofs.YtiiankjmeodjdaaW.PrintWords Go.Proofs.YtiiankjmeodjdaaW.PrintLast Go.Proofs.YtiiankjmeodjdaaW.PrintMore

theorem refcheck_l2 (n k : Int) (nx : List (List Int)) (s f : Int) (L : List (List Int)) (Ll j : Int) (v : List Int) (hv : v.length ≤ 1000) (r : Int) : ∀ (d i : Nat), i + d = v.length →
    ((v.drop i).all (okN n) = true → Ev (fun q => coppicerref_MachineCheck.l1 q L Ll (wrap64 (j + 1)) n k nx s f) r) → ((v.drop i).all (okN n) = false → r = 2) →
    Ev (fun q => coppicerref_MachineCheck.l2 q L Ll j v (v.length : Int) (i : Int) n k nx s f) r := by
  intro d
  induction d with
  | zero =>
    intro i hi hy hn
    refine Ev.step (fun q => by rw [coppicerref_MachineCheck.l2]) (Ev.neg (by omega) ?_)
    rw [List.drop_eq_nil_of_le (by omega)] at hy
    exact hy rfl
  | succ d ih =>
    intro i hi hy hn
    have hlt : i < v.length := by omega
    refine Ev.step (fun q => by rw [coppicerref_MachineCheck.l2]) (Ev.pos (by omega) (Ev.pos (by omega) (Ev.pos (by omega) ?_)))
    rw [rd_nat]
    rw [drop_cons hlt 0, List.all_cons] at hy hn
    generalize v.getD i 0 = x at *
    by_cases h1 : x < 0
    · rw [hn (by rw [show okN n x = false by simp [okN]; omega]; rfl)]
      exact Ev.pos h1 (Ev.now _)
    · refine Ev.neg h1 ?_
      by_cases h2 : x ≥ n
      · rw [hn (by rw [show okN n x = false by simp [okN]; omega]; rfl)]
        exact Ev.pos h2 (Ev.now _)
      · refine Ev.neg h2 ?_
        rw [show okN n x = true by simp [okN]; omega, Bool.true_and] at hy hn
        rw [w64 (n := (i : Int) + 1) (by omega) (by omega)]
        exact ih (i + 1) (by omega) hy hn
theorem refcheck_l1 (n k : Int) (nx : List (List Int)) (s f : Int) (hn0 : 1 ≤ n) (hn7 : n ≤ 7) (L : List (List Int)) (hL : L.length ≤ 1000) (hv : ∀ v ∈ L, v.length ≤ 1000) : ∀ (d j : Nat), j + d = L.length →
    Ev (fun q => coppicerref_MachineCheck.l1 q L (L.length : Int) (j : Int) n k nx s f) (if (L.drop j).all (fun v => v.all (okN n)) = true then (if okN n s = true then (if f < 2 ^ n.toNat then 0 else 4) else 2) else 2) := by
  intro d
  induction d with
  | zero =>
    intro j hj
    refine Ev.step (fun q => by rw [coppicerref_MachineCheck.l1]) (Ev.neg (by omega) ?_)
    rw [List.drop_eq_nil_of_le (by omega)]
    show Ev _ (if okN n s = true then (if f < 2 ^ n.toNat then 0 else 4) else 2)
    by_cases h1 : s < 0
    · rw [show okN n s = false by simp [okN]; omega]
      show Ev _ (2 : Int)
      exact Ev.pos h1 (Ev.step (fun q => by rw [coppicerref_MachineCheck.j4]) (Ev.pos rfl (Ev.now _)))
    · refine Ev.neg h1 ?_
      by_cases h2 : s ≥ n
      · rw [show okN n s = false by simp [okN]; omega]
        show Ev _ (2 : Int)
        exact Ev.step (fun q => by rw [coppicerref_MachineCheck.j4]) (Ev.pos (by simpa using h2) (Ev.now _))
      · rw [show okN n s = true by simp [okN]; omega]
        refine Ev.step (fun q => by rw [coppicerref_MachineCheck.j4]) (Ev.neg (by simpa using h2) ?_)
        rw [u64_small (by omega) (by omega)]
        refine Ev.pos (by omega) ?_
        rw [shl_one (by omega) (by omega)]
        by_cases h3 : f < 2 ^ n.toNat
        · rw [if_pos h3]; exact Ev.neg (by omega) (Ev.now _)
        · rw [if_neg h3]; exact Ev.pos (by omega) (Ev.now _)
  | succ d ih =>
    intro j hj
    have hlt : j < L.length := by omega
    refine Ev.step (fun q => by rw [coppicerref_MachineCheck.l1]) (Ev.pos (by omega) (Ev.pos (by omega) (Ev.pos (by omega) ?_)))
    rw [rdL_nat, drop_cons hlt [], List.all_cons]
    have hm : L.getD j [] ∈ L := getD_mem hlt
    have hv1 := hv _ hm
    generalize L.getD j [] = v at *
    refine refcheck_l2 n k nx s f L _ _ v hv1 _ v.length 0 (by omega) (fun h => ?_) (fun h => ?_)
    · rw [List.drop_zero] at h
      rw [h, Bool.true_and, w64 (n := (j : Int) + 1) (by omega) (by omega)]
      exact ih (j + 1) (by omega)
    · rw [List.drop_zero] at h
      rw [h]; rfl
theorem refcheck_l0 (n k : Int) (nx : List (List Int)) (s f : Int) (L : List (List Int)) (hL : L.length ≤ 1000) (r : Int) : ∀ (d j : Nat), j + d = L.length →
    ((L.drop j).all (fun v => decide ((v.length : Int) = k)) = true → Ev (fun q => coppicerref_MachineCheck.l1 q nx (nx.length : Int) 0 n k nx s f) r) → ((L.drop j).all (fun v => decide ((v.length : Int) = k)) = false → r = 3) →
    Ev (fun q => coppicerref_MachineCheck.l0 q L (L.length : Int) (j : Int) n k nx s f) r := by
  intro d
  induction d with
  | zero =>
    intro j hj hy hn
    refine Ev.step (fun q => by rw [coppicerref_MachineCheck.l0]) (Ev.neg (by omega) ?_)
    rw [List.drop_eq_nil_of_le (by omega)] at hy
    exact hy rfl
  | succ d ih =>
    intro j hj hy hn
    have hlt : j < L.length := by omega
    refine Ev.step (fun q => by rw [coppicerref_MachineCheck.l0]) (Ev.pos (by omega) (Ev.pos (by omega) (Ev.pos (by omega) ?_)))
    rw [rdL_nat]
    rw [drop_cons hlt [], List.all_cons] at hy hn
    generalize L.getD j [] = v at *
    by_cases h1 : (v.length : Int) = k
    · rw [decide_eq_true h1, Bool.true_and] at hy hn
      refine Ev.pos h1 ?_
      rw [w64 (n := (j : Int) + 1) (by omega) (by omega)]
      exact ih (j + 1) (by omega) hy hn
    · rw [hn (by rw [decide_eq_false h1]; rfl)]
      exact Ev.neg h1 (Ev.now _)
theorem refcheck_spec {n k : Int} {nx : List (List Int)} {s f : Int} (h0 : 0 ≤ f) (h1 : f < 4294967296) : ∃ e, Ev (fun q => coppicerref_MachineCheck.f q n k nx s f) e ∧ (e = 0 ↔ GoodM n k nx s f) := by
  by_cases a1 : n < 1
  · exact ⟨1, Ev.congr (fun q => by rw [coppicerref_MachineCheck.f]) (Ev.pos a1 (Ev.step (fun q => by rw [coppicerref_MachineCheck.j0]) (Ev.pos rfl (Ev.now _)))), fun h => absurd h (by decide), fun h => by have := h.n1; omega⟩
  by_cases a2 : n > 7
  · exact ⟨1, Ev.congr (fun q => by rw [coppicerref_MachineCheck.f]) (Ev.neg a1 (Ev.pos a2 (Ev.step (fun q => by rw [coppicerref_MachineCheck.j0]) (Ev.pos rfl (Ev.now _))))), fun h => absurd h (by decide), fun h => by have := h.n7; omega⟩
  by_cases a3 : k < 1
  · exact ⟨1, Ev.congr (fun q => by rw [coppicerref_MachineCheck.f]) (Ev.neg a1 (Ev.neg a2 (Ev.pos a3 (Ev.step (fun q => by rw [coppicerref_MachineCheck.j0]) (Ev.pos rfl (Ev.now _)))))), fun h => absurd h (by decide), fun h => by have := h.k1; omega⟩
  by_cases a4 : k > 3
  · exact ⟨1, Ev.congr (fun q => by rw [coppicerref_MachineCheck.f]) (Ev.neg a1 (Ev.neg a2 (Ev.neg a3 (Ev.step (fun q => by rw [coppicerref_MachineCheck.j0]) (Ev.pos (by simpa using a4) (Ev.now _)))))), fun h => absurd h (by decide), fun h => by have := h.k3; omega⟩
  have pre : ∀ {r : Int}, Ev (fun q => if (nx.length : Int) = n then (coppicerref_MachineCheck.l0 q nx (nx.length : Int) 0 n k nx s f) else (some 3)) r → Ev (fun q => coppicerref_MachineCheck.f q n k nx s f) r := fun h =>
    Ev.congr (fun q => by rw [coppicerref_MachineCheck.f]) (Ev.neg a1 (Ev.neg a2 (Ev.neg a3 (Ev.step (fun q => by rw [coppicerref_MachineCheck.j0]) (Ev.neg (by simpa using a4) h)))))
  by_cases a5 : (nx.length : Int) = n
  · by_cases a6 : nx.all (fun v => decide ((v.length : Int) = k)) = true
    · have hrow : ∀ l ∈ nx, (l.length : Int) = k := fun l hl => of_decide_eq_true (List.all_eq_true.1 a6 l hl)
      have hl1 := refcheck_l1 n k nx s f (by omega) (by omega) nx (by omega) (fun v hv => by have := hrow v hv; omega) nx.length 0 (by omega)
      rw [List.drop_zero] at hl1
      refine ⟨_, pre (Ev.pos a5 (refcheck_l0 n k nx s f nx (by omega) _ nx.length 0 (by omega) (fun _ => hl1) (fun h => by rw [List.drop_zero, a6] at h; exact absurd h (by decide)))), ?_⟩
      constructor
      · intro h
        by_cases b1 : nx.all (fun v => v.all (okN n)) = true
        · rw [if_pos b1] at h
          by_cases b2 : okN n s = true
          · rw [if_pos b2] at h
            by_cases b3 : f < 2 ^ n.toNat
            · exact ⟨by omega, by omega, by omega, by omega, a5, hrow, fun l hl x hx => okN_iff.1 (List.all_eq_true.1 (List.all_eq_true.1 b1 l hl) x hx), (okN_iff.1 b2).1, (okN_iff.1 b2).2, b3⟩
            · rw [if_neg b3] at h; exact absurd h (by decide)
          · rw [if_neg b2] at h; exact absurd h (by decide)
        · rw [if_neg b1] at h; exact absurd h (by decide)
      · intro h
        rw [if_pos (List.all_eq_true.2 fun l hl => List.all_eq_true.2 fun x hx => okN_iff.2 (h.tgt l hl x hx)), if_pos (okN_iff.2 ⟨h.s0, h.s1⟩), if_pos h.f1]
    · refine ⟨3, pre (Ev.pos a5 (refcheck_l0 n k nx s f nx (by omega) _ nx.length 0 (by omega) (fun h => by rw [List.drop_zero] at h; exact absurd h a6) (fun _ => rfl))), fun h => absurd h (by decide), fun h => absurd (List.all_eq_true.2 fun l hl => decide_eq_true (h.row l hl)) a6⟩
  · exact ⟨3, pre (Ev.neg a5 (Ev.now _)), fun h => absurd h (by decide), fun h => absurd h.len a5⟩
end Go.Proofs.Ytiiankjmeodjdaa.PGM
