/- Words on machines in plain Lean: what machine.Check, machine.Words and machine.Run answer. Conditions: none beyond the kinds of the arguments. -/
import Derived.Test.YtiiankjmeodjdaaPGMachine0
import Derived.Test.YtiiankjmeodjdaaGG3
namespace Go.Proofs.Ytiiankjmeodjdaa.PGM
set_option linter.unusedVariables false
set_option linter.unusedSimpArgs false
open Go.RowKit Go.Proofs.Ytiiankjmeodjdaa.GG Go.Proofs.YtiiankjmeodjdaaW.PrintWords Go.Proofs.YtiiankjmeodjdaaW.PrintLast Go.Proofs.YtiiankjmeodjdaaW.PrintMore

theorem rdL_nat (xs : List (List Int)) (i : Nat) : rd_L1 xs (i : Int) = xs.getD i [] := by simp [rd_L1]
/-- A machine as the document has it. -/
structure GoodM (n k : Int) (nx : List (List Int)) (s f : Int) : Prop where
  n1 : 1 ≤ n
  n7 : n ≤ 7
  k1 : 1 ≤ k
  k3 : k ≤ 3
  len : (nx.length : Int) = n
  row : ∀ l ∈ nx, (l.length : Int) = k
  tgt : ∀ l ∈ nx, ∀ x ∈ l, 0 ≤ x ∧ x < n
  s0 : 0 ≤ s
  s1 : s < n
  f1 : f < 2 ^ n.toNat

theorem check_loop (n k : Int) (nx : List (List Int)) (s f : Int) (h0 : 0 ≤ f) (h1 : f < 4294967296) (hn : 0 ≤ n) (l : List Int) (hl : l.length ≤ 1000) : ∀ (d i : Nat), i + d = l.length →
    Ev (fun q => machine_Check.l0 q l (l.length : Int) (i : Int) n k nx s f) (if (l.drop i).all (okN n) = true then (if f < 2 ^ n.toNat then 0 else 4) else 2) := by
  intro d
  induction d with
  | zero =>
    intro i hi
    refine Ev.step (fun q => by rw [machine_Check.l0]) (Ev.neg (by omega) (Ev.pos hn ?_))
    rw [List.drop_eq_nil_of_le (by omega)]
    by_cases hf : f < 2 ^ n.toNat
    · exact Ev.pos ((shr_zero h0 h1 hn).2 hf) (by rw [if_pos hf]; exact Ev.now _)
    · exact Ev.neg (fun h => hf ((shr_zero h0 h1 hn).1 h)) (by rw [if_neg hf]; exact Ev.now _)
  | succ d ih =>
    intro i hi
    have hlt : i < l.length := by omega
    refine Ev.step (fun q => by rw [machine_Check.l0]) (Ev.pos (by omega) (Ev.pos (by omega) (Ev.pos (by omega) ?_)))
    rw [rd_nat, drop_cons hlt 0, List.all_cons]
    generalize l.getD i 0 = x
    by_cases h1 : x < 0
    · refine Ev.pos h1 ?_
      rw [show okN n x = false by simp [okN]; omega]
      exact Ev.now _
    · refine Ev.neg h1 ?_
      by_cases h2 : x ≥ n
      · refine Ev.pos h2 ?_
        rw [show okN n x = false by simp [okN]; omega]
        exact Ev.now _
      · refine Ev.neg h2 ?_
        rw [show okN n x = true by simp [okN]; omega, Bool.true_and, w64 (n := (i : Int) + 1) (by omega) (by omega)]
        exact ih (i + 1) (by omega)
theorem flatten_le {nx : List (List Int)} {k : Nat} (h : ∀ l ∈ nx, l.length ≤ k) : nx.flatten.length ≤ nx.length * k := by
  induction nx with
  | nil => simp
  | cons x xs ih =>
    have := h x List.mem_cons_self
    have := ih fun l hl => h l (List.mem_cons_of_mem _ hl)
    rw [List.flatten_cons, List.length_append, List.length_cons, Nat.succ_mul]
    omega
theorem check_spec {n k : Int} {nx : List (List Int)} {s f : Int} (h0 : 0 ≤ f) (h1 : f < 4294967296) : ∃ e, Ev (fun q => machine_Check.f q n k nx s f) e ∧ (e = 0 ↔ GoodM n k nx s f) := by
  by_cases a1 : n < 1
  · exact ⟨1, Ev.congr (fun q => by rw [machine_Check.f]) (Ev.pos a1 (Ev.step (fun q => by rw [machine_Check.j0]) (Ev.pos rfl (Ev.now _)))), fun h => absurd h (by decide), fun h => by have := h.n1; omega⟩
  by_cases a2 : n > 7
  · exact ⟨1, Ev.congr (fun q => by rw [machine_Check.f]) (Ev.neg a1 (Ev.pos a2 (Ev.step (fun q => by rw [machine_Check.j0]) (Ev.pos rfl (Ev.now _))))), fun h => absurd h (by decide), fun h => by have := h.n7; omega⟩
  by_cases a3 : k < 1
  · exact ⟨1, Ev.congr (fun q => by rw [machine_Check.f]) (Ev.neg a1 (Ev.neg a2 (Ev.pos a3 (Ev.step (fun q => by rw [machine_Check.j0]) (Ev.pos rfl (Ev.now _)))))), fun h => absurd h (by decide), fun h => by have := h.k1; omega⟩
  by_cases a4 : k > 3
  · exact ⟨1, Ev.congr (fun q => by rw [machine_Check.f]) (Ev.neg a1 (Ev.neg a2 (Ev.neg a3 (Ev.step (fun q => by rw [machine_Check.j0]) (Ev.pos (by simpa using a4) (Ev.now _)))))), fun h => absurd h (by decide), fun h => by have := h.k3; omega⟩
  have pre : ∀ {r : Int}, Ev (fun q => if (nx.length : Int) = n then ((machine_Check_any.f nx k).bind fun t102 => (machine_Check.j1 q t102 n k nx s f)) else (machine_Check.j1 q true n k nx s f)) r → Ev (fun q => machine_Check.f q n k nx s f) r := fun h =>
    Ev.congr (fun q => by rw [machine_Check.f]) (Ev.neg a1 (Ev.neg a2 (Ev.neg a3 (Ev.step (fun q => by rw [machine_Check.j0]) (Ev.neg (by simpa using a4) h)))))
  have three : Ev (fun q => machine_Check.j1 q true n k nx s f) 3 := Ev.step (fun q => by rw [machine_Check.j1]) (Ev.pos rfl (Ev.now _))
  by_cases a5 : (nx.length : Int) = n
  · by_cases a6 : (nx.any fun l => (l.length : Int) != k) = true
    · refine ⟨3, pre (Ev.pos a5 (Ev.bindc rfl ?_)), fun h => absurd h (by decide), fun h => ?_⟩
      · rw [a6]; exact three
      · rw [List.any_eq_true] at a6
        obtain ⟨l, hl, hb⟩ := a6
        have := h.row l hl
        simp at hb
        omega
    · have a6' := Bool.eq_false_iff.2 a6
      have hrow : ∀ l ∈ nx, (l.length : Int) = k := fun l hl => by
        have := fun h => a6 (List.any_eq_true.2 ⟨l, hl, h⟩)
        simpa using this
      have hfl : nx.flatten.length ≤ nx.length * 3 := flatten_le fun l hl => by have := hrow l hl; omega
      have hc : slices_Concat_int_int.f nx = some nx.flatten := by
        unfold slices_Concat_int_int.f
        rw [if_pos ⟨by omega, by omega⟩]
      refine ⟨(if (nx.flatten ++ [s]).all (okN n) = true then (if f < 2 ^ n.toNat then 0 else 4) else 2), pre (Ev.pos a5 (Ev.bindc rfl ?_)), ?_⟩
      · rw [a6']
        refine Ev.step (fun q => by rw [machine_Check.j1]) (Ev.neg (by simp) (Ev.bindc hc ?_))
        refine Ev.let_ ?_
        refine Ev.pos (show nx.flatten.length + [s].length < 17592186044416 by rw [List.length_singleton]; omega) ?_
        refine Ev.let_ ?_
        have := check_loop n k nx s f h0 h1 (by omega) (nx.flatten ++ [s]) (by rw [List.length_append, List.length_singleton]; omega) (nx.flatten ++ [s]).length 0 (by omega)
        rw [List.drop_zero] at this
        exact this
      · constructor
        · intro h
          by_cases b1 : (nx.flatten ++ [s]).all (okN n) = true
          · rw [if_pos b1] at h
            by_cases b2 : f < 2 ^ n.toNat
            · rw [List.all_eq_true] at b1
              have hs := okN_iff.1 (b1 s (by simp))
              exact ⟨by omega, by omega, by omega, by omega, a5, hrow, fun l hl x hx => okN_iff.1 (b1 x (by simp; exact .inl ⟨l, hl, hx⟩)), hs.1, hs.2, b2⟩
            · rw [if_neg b2] at h; exact absurd h (by decide)
          · rw [if_neg b1] at h; exact absurd h (by decide)
        · intro h
          have b1 : (nx.flatten ++ [s]).all (okN n) = true := by
            rw [List.all_eq_true]
            intro x hx
            rw [okN_iff]
            simp at hx
            rcases hx with ⟨l, hl, hx⟩ | rfl
            · exact h.tgt l hl x hx
            · exact ⟨h.s0, h.s1⟩
          rw [if_pos b1, if_pos h.f1]
  · exact ⟨3, pre (Ev.neg a5 three), fun h => absurd h (by decide), fun h => absurd h.len a5⟩

/-- Where a machine is led by a symbol, and by a word. -/
def stepM (nx : List (List Int)) (a s : Int) : Int := (nx.getD a.toNat []).getD s.toNat 0
def leads (nx : List (List Int)) (a : Int) (w : List Int) : Int := w.foldl (stepM nx) a
theorem stepM_in {n k : Int} {nx : List (List Int)} {st f : Int} (h : GoodM n k nx st f) {a s : Int} (ha : 0 ≤ a ∧ a < n) (hs : 0 ≤ s ∧ s < k) : 0 ≤ stepM nx a s ∧ stepM nx a s < n := by
  have h1 := h.len
  have hm : nx.getD a.toNat [] ∈ nx := getD_mem (by omega)
  have h2 := h.row _ hm
  exact h.tgt _ hm _ (getD_mem (by omega))
theorem leads_in {n k : Int} {nx : List (List Int)} {st f : Int} (h : GoodM n k nx st f) : ∀ {w : List Int} {a : Int}, (∀ s ∈ w, 0 ≤ s ∧ s < k) → 0 ≤ a ∧ a < n → 0 ≤ leads nx a w ∧ leads nx a w < n
  | [], a, _, ha => ha
  | s :: w, a, hw, ha => leads_in h (w := w) (fun x hx => hw x (List.mem_cons_of_mem _ hx)) (stepM_in h ha (hw s List.mem_cons_self))
theorem run_loop {n k : Int} {nx : List (List Int)} {st f : Int} (h : GoodM n k nx st f) (h0 : 0 ≤ f) (h1 : f < 4294967296) (w : List Int) (hw : GoodW k w) (n' k' st' : Int) : ∀ (d i : Nat) (a : Int), i + d = w.length → 0 ≤ a ∧ a < n →
    Ev (fun q => machine_Run.l0 q a w (w.length : Int) (i : Int) n' k' nx st' f) (leads nx a (w.drop i), bit f (leads nx a (w.drop i)), 0) := by
  intro d
  induction d with
  | zero =>
    intro i a hi ha
    refine Ev.step (fun q => by rw [machine_Run.l0]) (Ev.neg (by omega) ?_)
    rw [List.drop_eq_nil_of_le (by omega)]
    refine Ev.pos ha.1 (Ev.val ?_)
    rw [shr_bit h0 h1 ha.1]
    show _ = some (a, bit f a, 0)
    cases bit f a <;> rfl
  | succ d ih =>
    intro i a hi ha
    have hlt : i < w.length := by omega
    have hwl := hw.1
    have hm : w.getD i 0 ∈ w := getD_mem hlt
    have hs := hw.2 _ hm
    have e1 := h.len
    have hm2 : nx.getD a.toNat [] ∈ nx := getD_mem (by omega)
    have e2 := h.row _ hm2
    refine Ev.step (fun q => by rw [machine_Run.l0]) (Ev.pos (by omega) (Ev.pos (by omega) (Ev.pos (by omega) (Ev.pos ha.1 (Ev.pos (by omega) ?_)))))
    rw [rd_nat, show rd_L1 nx a = nx.getD a.toNat [] from rfl]
    refine Ev.pos hs.1 (Ev.pos (by omega) ?_)
    rw [w64 (n := (i : Int) + 1) (by omega) (by omega), show rd (nx.getD a.toNat []) (w.getD i 0) = stepM nx a (w.getD i 0) from rfl, drop_cons hlt 0]
    exact ih (i + 1) _ (by omega) (stepM_in h ha hs)
theorem run_good {n k : Int} {nx : List (List Int)} {st f : Int} (h : GoodM n k nx st f) (h0 : 0 ≤ f) (h1 : f < 4294967296) (w : List Int) (hw : GoodW k w) :
    Ev (fun q => machine_Run.f q n k nx st f w) (leads nx st w, bit f (leads nx st w), 0) := by
  obtain ⟨e, he, hi⟩ := check_spec (n := n) (k := k) (nx := nx) (s := st) h0 h1
  obtain ⟨e2, he2, hi2⟩ := words_spec k w
  have := run_loop h h0 h1 w hw n k st w.length 0 st (by omega) ⟨h.s0, h.s1⟩
  rw [List.drop_zero] at this
  exact Ev.congr (fun q => by rw [machine_Run.f]) (Ev.bind he (Ev.pos (hi.2 h) (Ev.bindc he2 (Ev.pos (hi2.2 hw) this))))
theorem run_bad {n k : Int} {nx : List (List Int)} {st f : Int} (h0 : 0 ≤ f) (h1 : f < 4294967296) (w : List Int) (hn : ¬ (GoodM n k nx st f ∧ GoodW k w)) :
    ∃ e, e ≠ 0 ∧ Ev (fun q => machine_Run.f q n k nx st f w) (0, false, e) := by
  obtain ⟨e, he, hi⟩ := check_spec (n := n) (k := k) (nx := nx) (s := st) h0 h1
  obtain ⟨e2, he2, hi2⟩ := words_spec k w
  by_cases c : e = 0
  · have c2 : ¬ e2 = 0 := fun h => hn ⟨hi.1 c, hi2.1 h⟩
    exact ⟨e2, c2, Ev.congr (fun q => by rw [machine_Run.f]) (Ev.bind he (Ev.pos c (Ev.bindc he2 (Ev.neg c2 (Ev.now _)))))⟩
  · exact ⟨e, c, Ev.congr (fun q => by rw [machine_Run.f]) (Ev.bind he (Ev.neg c (Ev.now _)))⟩
end Go.Proofs.Ytiiankjmeodjdaa.PGM
