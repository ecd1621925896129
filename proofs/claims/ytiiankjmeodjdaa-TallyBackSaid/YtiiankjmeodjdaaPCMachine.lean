/- Words on machines in plain Lean: what machine.Check, machine.Words and machine.Run answer. Conditions: none beyond the kinds of the arguments. -/
import Derived.Test.YtiiankjmeodjdaaEv
import Derived.Laws.BitsAllLaws
import Derived.Test.YtiiankjmeodjdaaGC5
import Derived.Test.YtiiankjmeodjdaaGC3
namespace Go.Proofs.Ytiiankjmeodjdaa.PCM
set_option linter.unusedVariables false
set_option linter.unusedSimpArgs false
open Go.RowKit Go.Proofs.Ytiiankjmeodjdaa.GC Go.Proofs.YtiiankjmeodjdaaW.PrintWords Go.Proofs.YtiiankjmeodjdaaW.PrintLast Go.Proofs.YtiiankjmeodjdaaW.PrintMore

/-- A bit of a number. -/
def bit (x : Int) (i : Int) : Bool := x.toNat.testBit i.toNat
theorem shr_nat (X n : Nat) : shr .u32 (X : Int) (n : Int) = ((X / 2 ^ min n 32 : Nat) : Int) := by
  unfold shr
  rw [Int.toNat_natCast]
  simp [IntKind.bits]
theorem div_big {X n : Nat} (hX : X < 4294967296) (h : 32 ≤ n) : X / 2 ^ n = 0 := by
  apply Nat.div_eq_of_lt
  calc X < 2 ^ 32 := hX
    _ ≤ 2 ^ n := Nat.pow_le_pow_right (by omega) h
theorem div_min {X : Nat} (hX : X < 4294967296) (n : Nat) : X / 2 ^ min n 32 = X / 2 ^ n := by
  rcases Nat.le_total n 32 with h | h
  · rw [Nat.min_eq_left h]
  · rw [Nat.min_eq_right h, div_big hX h, div_big hX (Nat.le_refl 32)]
theorem shr_bit {x : Int} (h0 : 0 ≤ x) (h1 : x < 4294967296) {n : Int} (hn : 0 ≤ n) : Go.bits .and .u32 (shr .u32 x n) 1 = if bit x n then 1 else 0 := by
  obtain ⟨X, rfl⟩ := Int.eq_ofNat_of_zero_le h0
  obtain ⟨m, rfl⟩ := Int.eq_ofNat_of_zero_le hn
  have hX : X < 4294967296 := by omega
  have hd : X / 2 ^ m < 4294967296 := Nat.lt_of_le_of_lt (Nat.div_le_self _ _) hX
  show Go.bits .and .u32 (shr .u32 (X : Int) (m : Int)) ((1 : Nat) : Int) = _
  rw [shr_nat, div_min hX, u32_and_nat _ _ hd (by omega), Nat.and_one_is_mod]
  show _ = if (X.testBit m) = true then 1 else 0
  rw [Nat.testBit_eq_decide_div_mod_eq]
  by_cases e : X / 2 ^ m % 2 = 1
  · rw [e]; simp
  · rw [if_neg (by simpa using e), show X / 2 ^ m % 2 = 0 by omega]; rfl
theorem shr_zero {x : Int} (h0 : 0 ≤ x) (h1 : x < 4294967296) {n : Int} (hn : 0 ≤ n) : shr .u32 x n = 0 ↔ x < 2 ^ n.toNat := by
  obtain ⟨X, rfl⟩ := Int.eq_ofNat_of_zero_le h0
  obtain ⟨m, rfl⟩ := Int.eq_ofNat_of_zero_le hn
  have hX : X < 4294967296 := by omega
  show shr .u32 (X : Int) (m : Int) = 0 ↔ _
  rw [shr_nat, div_min hX, Int.toNat_natCast]
  have e : ((2 : Int) ^ m) = ((2 ^ m : Nat) : Int) := by simp
  have hp : 0 < 2 ^ m := Nat.pow_pos (by omega)
  have hd : X / 2 ^ m = 0 ↔ X < 2 ^ m := by rw [Nat.div_eq_zero_iff]; omega
  show ((X / 2 ^ m : Nat) : Int) = 0 ↔ (X : Int) < 2 ^ m
  rw [e]
  omega
theorem shl_one {n : Int} (hn : 0 ≤ n) (h : n < 32) : shl .u32 1 n = 2 ^ n.toNat := by
  obtain ⟨m, rfl⟩ := Int.eq_ofNat_of_zero_le hn
  unfold shl
  rw [Int.toNat_natCast, Nat.min_eq_left (by simp [IntKind.bits]; omega), IntKind.wrap_u32']
  have hp : (2 : Nat) ^ m < 2 ^ 32 := Nat.pow_lt_pow_right (by omega) (by omega)
  have e : ((2 : Int) ^ m) = ((2 ^ m : Nat) : Int) := by simp
  rw [e, Int.one_mul]
  exact Int.emod_eq_of_lt (Int.natCast_nonneg _) (by have := Int.ofNat_lt.2 hp; simpa using this)

/-- A word that fits its symbols. -/
def GoodW (k : Int) (w : List Int) : Prop := w.length ≤ 12 ∧ ∀ s ∈ w, 0 ≤ s ∧ s < k
/-- A machine as the document has it. -/
structure GoodM (n k : Int) (nx : List (List Int)) (s f : Int) : Prop where
  n1 : 1 ≤ n
  n7 : n ≤ 7
  k1 : 1 ≤ k
  k3 : k ≤ 3
  len : (nx.length : Int) = n
  row : ∀ l ∈ nx, (l.length : Int) = k
  tgt : ∀ l ∈ nx, ∀ x ∈ l, 0 ≤ x ∧ x < n
  s0 : 0 ≤ s
  s1 : s < n
  f1 : f < 2 ^ n.toNat

theorem words_spec (k : Int) (w : List Int) : ∃ e, machine_Words.f k w = some e ∧ (e = 0 ↔ GoodW k w) := by
  refine ⟨_, rfl, ?_⟩
  unfold GoodW
  by_cases h : w.length > 12
  · rw [if_pos h]
    exact ⟨fun h' => absurd h' (by decide), fun h' => by omega⟩
  · rw [if_neg h]
    by_cases h2 : w.any (fun s => decide (s < 0) || decide (s ≥ k)) = true
    · rw [if_pos h2]
      refine ⟨fun h' => absurd h' (by decide), fun h' => ?_⟩
      rw [List.any_eq_true] at h2
      obtain ⟨s, hs, hb⟩ := h2
      have := h'.2 s hs
      simp at hb
      omega
    · rw [if_neg h2]
      refine ⟨fun _ => ⟨by omega, fun s hs => ?_⟩, fun _ => rfl⟩
      have := fun h3 => h2 (List.any_eq_true.2 ⟨s, hs, h3⟩)
      simp at this
      omega
theorem drop_cons {α : Type} {l : List α} {i : Nat} (h : i < l.length) (d : α) : l.drop i = l.getD i d :: l.drop (i + 1) := by
  rw [List.drop_eq_getElem_cons h, List.getD_eq_getElem?_getD, List.getElem?_eq_getElem h, Option.getD_some]
def okN (n : Int) (x : Int) : Bool := decide (0 ≤ x) && decide (x < n)
theorem okN_iff {n x : Int} : okN n x = true ↔ 0 ≤ x ∧ x < n := by simp [okN]
theorem check_loop (n k : Int) (nx : List (List Int)) (s f : Int) (h0 : 0 ≤ f) (h1 : f < 4294967296) (hn : 0 ≤ n) (l : List Int) (hl : l.length ≤ 1000) : ∀ (d i : Nat), i + d = l.length →
    Ev (fun q => machine_Check.l0 q l (l.length : Int) (i : Int) n k nx s f) (if (l.drop i).all (okN n) = true then (if f < 2 ^ n.toNat then 0 else 4) else 2) := by
  intro d
  induction d with
  | zero =>
    intro i hi
    refine Ev.step (fun q => by rw [machine_Check.l0]) (Ev.neg (by omega) (Ev.pos hn ?_))
    rw [List.drop_eq_nil_of_le (by omega)]
    by_cases hf : f < 2 ^ n.toNat
    · exact Ev.pos ((shr_zero h0 h1 hn).2 hf) (by rw [if_pos hf]; exact Ev.now _)
    · exact Ev.neg (fun h => hf ((shr_zero h0 h1 hn).1 h)) (by rw [if_neg hf]; exact Ev.now _)
  | succ d ih =>
    intro i hi
    have hlt : i < l.length := by omega
    refine Ev.step (fun q => by rw [machine_Check.l0]) (Ev.pos (by omega) (Ev.pos (by omega) (Ev.pos (by omega) ?_)))
    rw [rd_nat, drop_cons hlt 0, List.all_cons]
    generalize l.getD i 0 = x
    by_cases h1 : x < 0
    · refine Ev.pos h1 ?_
      rw [show okN n x = false by simp [okN]; omega]
      exact Ev.now _
    · refine Ev.neg h1 ?_
      by_cases h2 : x ≥ n
      · refine Ev.pos h2 ?_
        rw [show okN n x = false by simp [okN]; omega]
        exact Ev.now _
      · refine Ev.neg h2 ?_
        rw [show okN n x = true by simp [okN]; omega, Bool.true_and, w64 (n := (i : Int) + 1) (by omega) (by omega)]
        exact ih (i + 1) (by omega)
theorem flatten_le {nx : List (List Int)} {k : Nat} (h : ∀ l ∈ nx, l.length ≤ k) : nx.flatten.length ≤ nx.length * k := by
  induction nx with
  | nil => simp
  | cons x xs ih =>
    have := h x List.mem_cons_self
    have := ih fun l hl => h l (List.mem_cons_of_mem _ hl)
    rw [List.flatten_cons, List.length_append, List.length_cons, Nat.succ_mul]
    omega
theorem check_spec {n k : Int} {nx : List (List Int)} {s f : Int} (h0 : 0 ≤ f) (h1 : f < 4294967296) : ∃ e, Ev (fun q => machine_Check.f q n k nx s f) e ∧ (e = 0 ↔ GoodM n k nx s f) := by
  by_cases a1 : n < 1
  · exact ⟨1, Ev.congr (fun q => by rw [machine_Check.f]) (Ev.pos a1 (Ev.step (fun q => by rw [machine_Check.j0]) (Ev.pos rfl (Ev.now _)))), fun h => absurd h (by decide), fun h => by have := h.n1; omega⟩
  by_cases a2 : n > 7
  · exact ⟨1, Ev.congr (fun q => by rw [machine_Check.f]) (Ev.neg a1 (Ev.pos a2 (Ev.step (fun q => by rw [machine_Check.j0]) (Ev.pos rfl (Ev.now _))))), fun h => absurd h (by decide), fun h => by have := h.n7; omega⟩
  by_cases a3 : k < 1
  · exact ⟨1, Ev.congr (fun q => by rw [machine_Check.f]) (Ev.neg a1 (Ev.neg a2 (Ev.pos a3 (Ev.step (fun q => by rw [machine_Check.j0]) (Ev.pos rfl (Ev.now _)))))), fun h => absurd h (by decide), fun h => by have := h.k1; omega⟩
  by_cases a4 : k > 3
  · exact ⟨1, Ev.congr (fun q => by rw [machine_Check.f]) (Ev.neg a1 (Ev.neg a2 (Ev.neg a3 (Ev.step (fun q => by rw [machine_Check.j0]) (Ev.pos (by simpa using a4) (Ev.now _)))))), fun h => absurd h (by decide), fun h => by have := h.k3; omega⟩
  have pre : ∀ {r : Int}, Ev (fun q => if (nx.length : Int) = n then ((machine_Check_any.f nx k).bind fun t102 => (machine_Check.j1 q t102 n k nx s f)) else (machine_Check.j1 q true n k nx s f)) r → Ev (fun q => machine_Check.f q n k nx s f) r := fun h =>
    Ev.congr (fun q => by rw [machine_Check.f]) (Ev.neg a1 (Ev.neg a2 (Ev.neg a3 (Ev.step (fun q => by rw [machine_Check.j0]) (Ev.neg (by simpa using a4) h)))))
  have three : Ev (fun q => machine_Check.j1 q true n k nx s f) 3 := Ev.step (fun q => by rw [machine_Check.j1]) (Ev.pos rfl (Ev.now _))
  by_cases a5 : (nx.length : Int) = n
  · by_cases a6 : (nx.any fun l => (l.length : Int) != k) = true
    · refine ⟨3, pre (Ev.pos a5 (Ev.bindc rfl ?_)), fun h => absurd h (by decide), fun h => ?_⟩
      · rw [a6]; exact three
      · rw [List.any_eq_true] at a6
        obtain ⟨l, hl, hb⟩ := a6
        have := h.row l hl
        simp at hb
        omega
    · have a6' := Bool.eq_false_iff.2 a6
      have hrow : ∀ l ∈ nx, (l.length : Int) = k := fun l hl => by
        have := fun h => a6 (List.any_eq_true.2 ⟨l, hl, h⟩)
        simpa using this
      have hfl : nx.flatten.length ≤ nx.length * 3 := flatten_le fun l hl => by have := hrow l hl; omega
      have hc : slices_Concat_int_int.f nx = some nx.flatten := by
        unfold slices_Concat_int_int.f
        rw [if_pos ⟨by omega, by omega⟩]
      refine ⟨(if (nx.flatten ++ [s]).all (okN n) = true then (if f < 2 ^ n.toNat then 0 else 4) else 2), pre (Ev.pos a5 (Ev.bindc rfl ?_)), ?_⟩
      · rw [a6']
        refine Ev.step (fun q => by rw [machine_Check.j1]) (Ev.neg (by simp) (Ev.bindc hc ?_))
        refine Ev.let_ ?_
        refine Ev.pos (show nx.flatten.length + [s].length < 17592186044416 by rw [List.length_singleton]; omega) ?_
        refine Ev.let_ ?_
        have := check_loop n k nx s f h0 h1 (by omega) (nx.flatten ++ [s]) (by rw [List.length_append, List.length_singleton]; omega) (nx.flatten ++ [s]).length 0 (by omega)
        rw [List.drop_zero] at this
        exact this
      · constructor
        · intro h
          by_cases b1 : (nx.flatten ++ [s]).all (okN n) = true
          · rw [if_pos b1] at h
            by_cases b2 : f < 2 ^ n.toNat
            · rw [List.all_eq_true] at b1
              have hs := okN_iff.1 (b1 s (by simp))
              exact ⟨by omega, by omega, by omega, by omega, a5, hrow, fun l hl x hx => okN_iff.1 (b1 x (by simp; exact .inl ⟨l, hl, hx⟩)), hs.1, hs.2, b2⟩
            · rw [if_neg b2] at h; exact absurd h (by decide)
          · rw [if_neg b1] at h; exact absurd h (by decide)
        · intro h
          have b1 : (nx.flatten ++ [s]).all (okN n) = true := by
            rw [List.all_eq_true]
            intro x hx
            rw [okN_iff]
            simp at hx
            rcases hx with ⟨l, hl, hx⟩ | rfl
            · exact h.tgt l hl x hx
            · exact ⟨h.s0, h.s1⟩
          rw [if_pos b1, if_pos h.f1]
  · exact ⟨3, pre (Ev.neg a5 three), fun h => absurd h (by decide), fun h => absurd h.len a5⟩

theorem rdL_nat (xs : List (List Int)) (i : Nat) : rd_L1 xs (i : Int) = xs.getD i [] := by simp [rd_L1]
theorem u64_small {n : Int} (h0 : 0 ≤ n) (h1 : n < 18446744073709551616) : IntKind.u64.wrap n = n := by
  rw [IntKind.wrap_u64]; exact Int.emod_eq_of_lt h0 h1
theorem refcheck_l2 (n k : Int) (nx : List (List Int)) (s f : Int) (L : List (List Int)) (Ll j : Int) (v : List Int) (hv : v.length ≤ 1000) (r : Int) : ∀ (d i : Nat), i + d = v.length →
    ((v.drop i).all (okN n) = true → Ev (fun q => coppicerref_MachineCheck.l1 q L Ll (wrap64 (j + 1)) n k nx s f) r) → ((v.drop i).all (okN n) = false → r = 2) →
    Ev (fun q => coppicerref_MachineCheck.l2 q L Ll j v (v.length : Int) (i : Int) n k nx s f) r := by
  intro d
  induction d with
  | zero =>
    intro i hi hy hn
    refine Ev.step (fun q => by rw [coppicerref_MachineCheck.l2]) (Ev.neg (by omega) ?_)
    rw [List.drop_eq_nil_of_le (by omega)] at hy
    exact hy rfl
  | succ d ih =>
    intro i hi hy hn
    have hlt : i < v.length := by omega
    refine Ev.step (fun q => by rw [coppicerref_MachineCheck.l2]) (Ev.pos (by omega) (Ev.pos (by omega) (Ev.pos (by omega) ?_)))
    rw [rd_nat]
    rw [drop_cons hlt 0, List.all_cons] at hy hn
    generalize v.getD i 0 = x at *
    by_cases h1 : x < 0
    · rw [hn (by rw [show okN n x = false by simp [okN]; omega]; rfl)]
      exact Ev.pos h1 (Ev.now _)
    · refine Ev.neg h1 ?_
      by_cases h2 : x ≥ n
      · rw [hn (by rw [show okN n x = false by simp [okN]; omega]; rfl)]
        exact Ev.pos h2 (Ev.now _)
      · refine Ev.neg h2 ?_
        rw [show okN n x = true by simp [okN]; omega, Bool.true_and] at hy hn
        rw [w64 (n := (i : Int) + 1) (by omega) (by omega)]
        exact ih (i + 1) (by omega) hy hn
theorem refcheck_l1 (n k : Int) (nx : List (List Int)) (s f : Int) (hn0 : 1 ≤ n) (hn7 : n ≤ 7) (L : List (List Int)) (hL : L.length ≤ 1000) (hv : ∀ v ∈ L, v.length ≤ 1000) : ∀ (d j : Nat), j + d = L.length →
    Ev (fun q => coppicerref_MachineCheck.l1 q L (L.length : Int) (j : Int) n k nx s f) (if (L.drop j).all (fun v => v.all (okN n)) = true then (if okN n s = true then (if f < 2 ^ n.toNat then 0 else 4) else 2) else 2) := by
  intro d
  induction d with
  | zero =>
    intro j hj
    refine Ev.step (fun q => by rw [coppicerref_MachineCheck.l1]) (Ev.neg (by omega) ?_)
    rw [List.drop_eq_nil_of_le (by omega)]
    show Ev _ (if okN n s = true then (if f < 2 ^ n.toNat then 0 else 4) else 2)
    by_cases h1 : s < 0
    · rw [show okN n s = false by simp [okN]; omega]
      show Ev _ (2 : Int)
      exact Ev.pos h1 (Ev.step (fun q => by rw [coppicerref_MachineCheck.j4]) (Ev.pos rfl (Ev.now _)))
    · refine Ev.neg h1 ?_
      by_cases h2 : s ≥ n
      · rw [show okN n s = false by simp [okN]; omega]
        show Ev _ (2 : Int)
        exact Ev.step (fun q => by rw [coppicerref_MachineCheck.j4]) (Ev.pos (by simpa using h2) (Ev.now _))
      · rw [show okN n s = true by simp [okN]; omega]
        refine Ev.step (fun q => by rw [coppicerref_MachineCheck.j4]) (Ev.neg (by simpa using h2) ?_)
        rw [u64_small (by omega) (by omega)]
        refine Ev.pos (by omega) ?_
        rw [shl_one (by omega) (by omega)]
        by_cases h3 : f < 2 ^ n.toNat
        · rw [if_pos h3]; exact Ev.neg (by omega) (Ev.now _)
        · rw [if_neg h3]; exact Ev.pos (by omega) (Ev.now _)
  | succ d ih =>
    intro j hj
    have hlt : j < L.length := by omega
    refine Ev.step (fun q => by rw [coppicerref_MachineCheck.l1]) (Ev.pos (by omega) (Ev.pos (by omega) (Ev.pos (by omega) ?_)))
    rw [rdL_nat, drop_cons hlt [], List.all_cons]
    have hm : L.getD j [] ∈ L := getD_mem hlt
    have hv1 := hv _ hm
    generalize L.getD j [] = v at *
    refine refcheck_l2 n k nx s f L _ _ v hv1 _ v.length 0 (by omega) (fun h => ?_) (fun h => ?_)
    · rw [List.drop_zero] at h
      rw [h, Bool.true_and, w64 (n := (j : Int) + 1) (by omega) (by omega)]
      exact ih (j + 1) (by omega)
    · rw [List.drop_zero] at h
      rw [h]; rfl
theorem refcheck_l0 (n k : Int) (nx : List (List Int)) (s f : Int) (L : List (List Int)) (hL : L.length ≤ 1000) (r : Int) : ∀ (d j : Nat), j + d = L.length →
    ((L.drop j).all (fun v => decide ((v.length : Int) = k)) = true → Ev (fun q => coppicerref_MachineCheck.l1 q nx (nx.length : Int) 0 n k nx s f) r) → ((L.drop j).all (fun v => decide ((v.length : Int) = k)) = false → r = 3) →
    Ev (fun q => coppicerref_MachineCheck.l0 q L (L.length : Int) (j : Int) n k nx s f) r := by
  intro d
  induction d with
  | zero =>
    intro j hj hy hn
    refine Ev.step (fun q => by rw [coppicerref_MachineCheck.l0]) (Ev.neg (by omega) ?_)
    rw [List.drop_eq_nil_of_le (by omega)] at hy
    exact hy rfl
  | succ d ih =>
    intro j hj hy hn
    have hlt : j < L.length := by omega
    refine Ev.step (fun q => by rw [coppicerref_MachineCheck.l0]) (Ev.pos (by omega) (Ev.pos (by omega) (Ev.pos (by omega) ?_)))
    rw [rdL_nat]
    rw [drop_cons hlt [], List.all_cons] at hy hn
    generalize L.getD j [] = v at *
    by_cases h1 : (v.length : Int) = k
    · rw [decide_eq_true h1, Bool.true_and] at hy hn
      refine Ev.pos h1 ?_
      rw [w64 (n := (j : Int) + 1) (by omega) (by omega)]
      exact ih (j + 1) (by omega) hy hn
    · rw [hn (by rw [decide_eq_false h1]; rfl)]
      exact Ev.neg h1 (Ev.now _)
theorem refcheck_spec {n k : Int} {nx : List (List Int)} {s f : Int} (h0 : 0 ≤ f) (h1 : f < 4294967296) : ∃ e, Ev (fun q => coppicerref_MachineCheck.f q n k nx s f) e ∧ (e = 0 ↔ GoodM n k nx s f) := by
  by_cases a1 : n < 1
  · exact ⟨1, Ev.congr (fun q => by rw [coppicerref_MachineCheck.f]) (Ev.pos a1 (Ev.step (fun q => by rw [coppicerref_MachineCheck.j0]) (Ev.pos rfl (Ev.now _)))), fun h => absurd h (by decide), fun h => by have := h.n1; omega⟩
  by_cases a2 : n > 7
  · exact ⟨1, Ev.congr (fun q => by rw [coppicerref_MachineCheck.f]) (Ev.neg a1 (Ev.pos a2 (Ev.step (fun q => by rw [coppicerref_MachineCheck.j0]) (Ev.pos rfl (Ev.now _))))), fun h => absurd h (by decide), fun h => by have := h.n7; omega⟩
  by_cases a3 : k < 1
  · exact ⟨1, Ev.congr (fun q => by rw [coppicerref_MachineCheck.f]) (Ev.neg a1 (Ev.neg a2 (Ev.pos a3 (Ev.step (fun q => by rw [coppicerref_MachineCheck.j0]) (Ev.pos rfl (Ev.now _)))))), fun h => absurd h (by decide), fun h => by have := h.k1; omega⟩
  by_cases a4 : k > 3
  · exact ⟨1, Ev.congr (fun q => by rw [coppicerref_MachineCheck.f]) (Ev.neg a1 (Ev.neg a2 (Ev.neg a3 (Ev.step (fun q => by rw [coppicerref_MachineCheck.j0]) (Ev.pos (by simpa using a4) (Ev.now _)))))), fun h => absurd h (by decide), fun h => by have := h.k3; omega⟩
  have pre : ∀ {r : Int}, Ev (fun q => if (nx.length : Int) = n then (coppicerref_MachineCheck.l0 q nx (nx.length : Int) 0 n k nx s f) else (some 3)) r → Ev (fun q => coppicerref_MachineCheck.f q n k nx s f) r := fun h =>
    Ev.congr (fun q => by rw [coppicerref_MachineCheck.f]) (Ev.neg a1 (Ev.neg a2 (Ev.neg a3 (Ev.step (fun q => by rw [coppicerref_MachineCheck.j0]) (Ev.neg (by simpa using a4) h)))))
  by_cases a5 : (nx.length : Int) = n
  · by_cases a6 : nx.all (fun v => decide ((v.length : Int) = k)) = true
    · have hrow : ∀ l ∈ nx, (l.length : Int) = k := fun l hl => of_decide_eq_true (List.all_eq_true.1 a6 l hl)
      have hl1 := refcheck_l1 n k nx s f (by omega) (by omega) nx (by omega) (fun v hv => by have := hrow v hv; omega) nx.length 0 (by omega)
      rw [List.drop_zero] at hl1
      refine ⟨_, pre (Ev.pos a5 (refcheck_l0 n k nx s f nx (by omega) _ nx.length 0 (by omega) (fun _ => hl1) (fun h => by rw [List.drop_zero, a6] at h; exact absurd h (by decide)))), ?_⟩
      constructor
      · intro h
        by_cases b1 : nx.all (fun v => v.all (okN n)) = true
        · rw [if_pos b1] at h
          by_cases b2 : okN n s = true
          · rw [if_pos b2] at h
            by_cases b3 : f < 2 ^ n.toNat
            · exact ⟨by omega, by omega, by omega, by omega, a5, hrow, fun l hl x hx => okN_iff.1 (List.all_eq_true.1 (List.all_eq_true.1 b1 l hl) x hx), (okN_iff.1 b2).1, (okN_iff.1 b2).2, b3⟩
            · rw [if_neg b3] at h; exact absurd h (by decide)
          · rw [if_neg b2] at h; exact absurd h (by decide)
        · rw [if_neg b1] at h; exact absurd h (by decide)
      · intro h
        rw [if_pos (List.all_eq_true.2 fun l hl => List.all_eq_true.2 fun x hx => okN_iff.2 (h.tgt l hl x hx)), if_pos (okN_iff.2 ⟨h.s0, h.s1⟩), if_pos h.f1]
    · refine ⟨3, pre (Ev.pos a5 (refcheck_l0 n k nx s f nx (by omega) _ nx.length 0 (by omega) (fun h => by rw [List.drop_zero] at h; exact absurd h a6) (fun _ => rfl))), fun h => absurd h (by decide), fun h => absurd (List.all_eq_true.2 fun l hl => decide_eq_true (h.row l hl)) a6⟩
  · exact ⟨3, pre (Ev.neg a5 (Ev.now _)), fun h => absurd h (by decide), fun h => absurd h.len a5⟩
/-- Where a machine is led by a symbol, and by a word. -/
def stepM (nx : List (List Int)) (a s : Int) : Int := (nx.getD a.toNat []).getD s.toNat 0
def leads (nx : List (List Int)) (a : Int) (w : List Int) : Int := w.foldl (stepM nx) a
theorem stepM_in {n k : Int} {nx : List (List Int)} {st f : Int} (h : GoodM n k nx st f) {a s : Int} (ha : 0 ≤ a ∧ a < n) (hs : 0 ≤ s ∧ s < k) : 0 ≤ stepM nx a s ∧ stepM nx a s < n := by
  have h1 := h.len
  have hm : nx.getD a.toNat [] ∈ nx := getD_mem (by omega)
  have h2 := h.row _ hm
  exact h.tgt _ hm _ (getD_mem (by omega))
theorem leads_in {n k : Int} {nx : List (List Int)} {st f : Int} (h : GoodM n k nx st f) : ∀ {w : List Int} {a : Int}, (∀ s ∈ w, 0 ≤ s ∧ s < k) → 0 ≤ a ∧ a < n → 0 ≤ leads nx a w ∧ leads nx a w < n
  | [], a, _, ha => ha
  | s :: w, a, hw, ha => leads_in h (w := w) (fun x hx => hw x (List.mem_cons_of_mem _ hx)) (stepM_in h ha (hw s List.mem_cons_self))
theorem run_loop {n k : Int} {nx : List (List Int)} {st f : Int} (h : GoodM n k nx st f) (h0 : 0 ≤ f) (h1 : f < 4294967296) (w : List Int) (hw : GoodW k w) (n' k' st' : Int) : ∀ (d i : Nat) (a : Int), i + d = w.length → 0 ≤ a ∧ a < n →
    Ev (fun q => machine_Run.l0 q a w (w.length : Int) (i : Int) n' k' nx st' f) (leads nx a (w.drop i), bit f (leads nx a (w.drop i)), 0) := by
  intro d
  induction d with
  | zero =>
    intro i a hi ha
    refine Ev.step (fun q => by rw [machine_Run.l0]) (Ev.neg (by omega) ?_)
    rw [List.drop_eq_nil_of_le (by omega)]
    refine Ev.pos ha.1 (Ev.val ?_)
    rw [shr_bit h0 h1 ha.1]
    show _ = some (a, bit f a, 0)
    cases bit f a <;> rfl
  | succ d ih =>
    intro i a hi ha
    have hlt : i < w.length := by omega
    have hwl := hw.1
    have hm : w.getD i 0 ∈ w := getD_mem hlt
    have hs := hw.2 _ hm
    have e1 := h.len
    have hm2 : nx.getD a.toNat [] ∈ nx := getD_mem (by omega)
    have e2 := h.row _ hm2
    refine Ev.step (fun q => by rw [machine_Run.l0]) (Ev.pos (by omega) (Ev.pos (by omega) (Ev.pos (by omega) (Ev.pos ha.1 (Ev.pos (by omega) ?_)))))
    rw [rd_nat, show rd_L1 nx a = nx.getD a.toNat [] from rfl]
    refine Ev.pos hs.1 (Ev.pos (by omega) ?_)
    rw [w64 (n := (i : Int) + 1) (by omega) (by omega), show rd (nx.getD a.toNat []) (w.getD i 0) = stepM nx a (w.getD i 0) from rfl, drop_cons hlt 0]
    exact ih (i + 1) _ (by omega) (stepM_in h ha hs)
theorem run_good {n k : Int} {nx : List (List Int)} {st f : Int} (h : GoodM n k nx st f) (h0 : 0 ≤ f) (h1 : f < 4294967296) (w : List Int) (hw : GoodW k w) :
    Ev (fun q => machine_Run.f q n k nx st f w) (leads nx st w, bit f (leads nx st w), 0) := by
  obtain ⟨e, he, hi⟩ := check_spec (n := n) (k := k) (nx := nx) (s := st) h0 h1
  obtain ⟨e2, he2, hi2⟩ := words_spec k w
  have := run_loop h h0 h1 w hw n k st w.length 0 st (by omega) ⟨h.s0, h.s1⟩
  rw [List.drop_zero] at this
  exact Ev.congr (fun q => by rw [machine_Run.f]) (Ev.bind he (Ev.pos (hi.2 h) (Ev.bindc he2 (Ev.pos (hi2.2 hw) this))))
theorem run_bad {n k : Int} {nx : List (List Int)} {st f : Int} (h0 : 0 ≤ f) (h1 : f < 4294967296) (w : List Int) (hn : ¬ (GoodM n k nx st f ∧ GoodW k w)) :
    ∃ e, e ≠ 0 ∧ Ev (fun q => machine_Run.f q n k nx st f w) (0, false, e) := by
  obtain ⟨e, he, hi⟩ := check_spec (n := n) (k := k) (nx := nx) (s := st) h0 h1
  obtain ⟨e2, he2, hi2⟩ := words_spec k w
  by_cases c : e = 0
  · have c2 : ¬ e2 = 0 := fun h => hn ⟨hi.1 c, hi2.1 h⟩
    exact ⟨e2, c2, Ev.congr (fun q => by rw [machine_Run.f]) (Ev.bind he (Ev.pos c (Ev.bindc he2 (Ev.neg c2 (Ev.now _)))))⟩
  · exact ⟨e, c, Ev.congr (fun q => by rw [machine_Run.f]) (Ev.bind he (Ev.neg c (Ev.now _)))⟩
end Go.Proofs.Ytiiankjmeodjdaa.PCM
