/- Words on machines in plain Lean: what the reference's check answers. Conditions: none beyond the kinds of the arguments. -/
import Derived.Test.YtiiankjmeodjdaaEv
import Derived.Laws.BitsAllLaws
import Derived.Test.YtiiankjmeodjdaaGV1
import Derived.Test.YtiiankjmeodjdaaGV5
import Derived.Test.YtiiankjmeodjdaaGV6
import Derived.Test.YtiiankjmeodjdaaGV3
import Derived.Test.YtiiankjmeodjdaaGV9
import Derived.Test.YtiiankjmeodjdaaGV7
import Derived.Test.YtiiankjmeodjdaaGV4
import Derived.Test.YtiiankjmeodjdaaGV10
namespace Go.Proofs.Ytiiankjmeodjdaa.PVM
set_option linter.unusedVariables false
set_option linter.unusedSimpArgs false
open Go.RowKit Go.Proofs.Ytiiankjmeodjdaa.GV Go.Proofs.YtiiankjmeodjdaaW.PrintWords Go.Proofs.YtiiankjmeodjdaaW.PrintLast Go.Proofs.YtiiankjmeodjdaaW.PrintMore

/-- A bit of a number. -/
def bit (x : Int) (i : Int) : Bool := x.toNat.testBit i.toNat
theorem shr_nat (X n : Nat) : shr .u32 (X : Int) (n : Int) = ((X / 2 ^ min n 32 : Nat) : Int) := by
  unfold shr
  rw [Int.toNat_natCast]
  simp [IntKind.bits]
theorem div_big {X n : Nat} (hX : X < 4294967296) (h : 32 ≤ n) : X / 2 ^ n = 0 := by
  apply Nat.div_eq_of_lt
  calc X < 2 ^ 32 := hX
    _ ≤ 2 ^ n := Nat.pow_le_pow_right (by omega) h
theorem div_min {X : Nat} (hX : X < 4294967296) (n : Nat) : X / 2 ^ min n 32 = X / 2 ^ n := by
  rcases Nat.le_total n 32 with h | h
  · rw [Nat.min_eq_left h]
  · rw [Nat.min_eq_right h, div_big hX h, div_big hX (Nat.le_refl 32)]
theorem shr_bit {x : Int} (h0 : 0 ≤ x) (h1 : x < 4294967296) {n : Int} (hn : 0 ≤ n) : Go.bits .and .u32 (shr .u32 x n) 1 = if bit x n then 1 else 0 := by
  obtain ⟨X, rfl⟩ := Int.eq_ofNat_of_zero_le h0
  obtain ⟨m, rfl⟩ := Int.eq_ofNat_of_zero_le hn
  have hX : X < 4294967296 := by omega
  have hd : X / 2 ^ m < 4294967296 := Nat.lt_of_le_of_lt (Nat.div_le_self _ _) hX
  show Go.bits .and .u32 (shr .u32 (X : Int) (m : Int)) ((1 : Nat) : Int) = _
  rw [shr_nat, div_min hX, u32_and_nat _ _ hd (by omega), Nat.and_one_is_mod]
  show _ = if (X.testBit m) = true then 1 else 0
  rw [Nat.testBit_eq_decide_div_mod_eq]
  by_cases e : X / 2 ^ m % 2 = 1
  · rw [e]; simp
  · rw [if_neg (by simpa using e), show X / 2 ^ m % 2 = 0 by omega]; rfl
theorem shr_zero {x : Int} (h0 : 0 ≤ x) (h1 : x < 4294967296) {n : Int} (hn : 0 ≤ n) : shr .u32 x n = 0 ↔ x < 2 ^ n.toNat := by
  obtain ⟨X, rfl⟩ := Int.eq_ofNat_of_zero_le h0
  obtain ⟨m, rfl⟩ := Int.eq_ofNat_of_zero_le hn
  have hX : X < 4294967296 := by omega
  show shr .u32 (X : Int) (m : Int) = 0 ↔ _
  rw [shr_nat, div_min hX, Int.toNat_natCast]
  have e : ((2 : Int) ^ m) = ((2 ^ m : Nat) : Int) := by simp
  have hp : 0 < 2 ^ m := Nat.pow_pos (by omega)
  have hd : X / 2 ^ m = 0 ↔ X < 2 ^ m := by rw [Nat.div_eq_zero_iff]; omega
  show ((X / 2 ^ m : Nat) : Int) = 0 ↔ (X : Int) < 2 ^ m
  rw [e]
  omega
theorem shl_one {n : Int} (hn : 0 ≤ n) (h : n < 32) : shl .u32 1 n = 2 ^ n.toNat := by
  obtain ⟨m, rfl⟩ := Int.eq_ofNat_of_zero_le hn
  unfold shl
  rw [Int.toNat_natCast, Nat.min_eq_left (by simp [IntKind.bits]; omega), IntKind.wrap_u32']
  have hp : (2 : Nat) ^ m < 2 ^ 32 := Nat.pow_lt_pow_right (by omega) (by omega)
  have e : ((2 : Int) ^ m) = ((2 ^ m : Nat) : Int) := by simp
  rw [e, Int.one_mul]
  exact Int.emod_eq_of_lt (Int.natCast_nonneg _) (by have := Int.ofNat_lt.2 hp; simpa using this)

theorem u64_small {n : Int} (h0 : 0 ≤ n) (h1 : n < 18446744073709551616) : IntKind.u64.wrap n = n := by
  rw [IntKind.wrap_u64]; exact Int.emod_eq_of_lt h0 h1
/-- A word that fits its symbols. -/
def GoodW (k : Int) (w : List Int) : Prop := w.length ≤ 12 ∧ ∀ s ∈ w, 0 ≤ s ∧ s < k
theorem words_spec (k : Int) (w : List Int) : ∃ e, machine_Words.f k w = some e ∧ (e = 0 ↔ GoodW k w) := by
  refine ⟨_, rfl, ?_⟩
  unfold GoodW
  by_cases h : w.length > 12
  · rw [if_pos h]
    exact ⟨fun h' => absurd h' (by decide), fun h' => by omega⟩
  · rw [if_neg h]
    by_cases h2 : w.any (fun s => decide (s < 0) || decide (s ≥ k)) = true
    · rw [if_pos h2]
      refine ⟨fun h' => absurd h' (by decide), fun h' => ?_⟩
      rw [List.any_eq_true] at h2
      obtain ⟨s, hs, hb⟩ := h2
      have := h'.2 s hs
      simp at hb
      omega
    · rw [if_neg h2]
      refine ⟨fun _ => ⟨by omega, fun s hs => ?_⟩, fun _ => rfl⟩
      have := fun h3 => h2 (List.any_eq_true.2 ⟨s, hs, h3⟩)
      simp at this
      omega
theorem drop_cons {α : Type} {l : List α} {i : Nat} (h : i < l.length) (d : α) : l.drop i = l.getD i d :: l.drop (i + 1) := by
  rw [List.drop_eq_getElem_cons h, List.getD_eq_getElem?_getD, List.getElem?_eq_getElem h, Option.getD_some]
def okN (n : Int) (x : Int) : Bool := decide (0 ≤ x) && decide (x < n)
theorem okN_iff {n x : Int} : okN n x = true ↔ 0 ≤ x ∧ x < n := by simp [okN]
end Go.Proofs.Ytiiankjmeodjdaa.PVM

namespace Go.Proofs.Ytiiankjmeodjdaa.PVM
set_option linter.unusedVariables false
set_option linter.unusedSimpArgs false
open Go.RowKit Go.Proofs.Ytiiankjmeodjdaa.GV Go.Proofs.YtiiankjmeodjdaaW.PrintWords Go.Proofs.YtiiankjmeodjdaaW.PrintLast Go.Proofs.YtiiankjmeodjdaaW.PrintMore

theorem rdA_nat (xs : List (List Int)) (i : Nat) : rd_L1 xs (i : Int) = xs.getD i [] := by simp [rd_L1]
theorem rdB_nat (xs : List (List (List Int))) (i : Nat) : rd_L2 xs (i : Int) = xs.getD i [] := by simp [rd_L2]
/-- A turner as the document has it. -/
structure GoodT (n k l : Int) (nx : List (List Int)) (ou : List (List (List Int))) (s : Int) : Prop where
  n1 : 1 ≤ n
  n7 : n ≤ 7
  k1 : 1 ≤ k
  k3 : k ≤ 3
  l1 : 1 ≤ l
  l3 : l ≤ 3
  ln : (nx.length : Int) = n
  lo : (ou.length : Int) = n
  row : ∀ i : Nat, i < n.toNat → ((nx.getD i []).length : Int) = k ∧ ((ou.getD i []).length : Int) = k
  small : ∀ r ∈ ou, ∀ w ∈ r, w.length ≤ 4
  en : ∀ r ∈ nx, ∀ x ∈ r, 0 ≤ x ∧ x < n
  s0 : 0 ≤ s
  s1 : s < n
  eo : ∀ r ∈ ou, ∀ w ∈ r, ∀ x ∈ w, 0 ≤ x ∧ x < l
theorem flat_le {α : Type} : ∀ {rs : List (List α)} {k : Nat}, (∀ r ∈ rs, r.length ≤ k) → rs.flatten.length ≤ rs.length * k
  | [], k, _ => by simp
  | r :: rs, k, h => by
    have h1 := h r List.mem_cons_self
    have h2 := flat_le (rs := rs) (k := k) (fun x hx => h x (List.mem_cons_of_mem _ hx))
    rw [List.flatten_cons, List.length_append, List.length_cons, Nat.add_mul, Nat.one_mul]
    omega
theorem tcheck_l2 {n k l s : Int} {nx : List (List Int)} {ou : List (List (List Int))} (xs : List Int) (hx : xs.length ≤ 1000) : ∀ (d i : Nat), i + d = xs.length → ∃ e, Ev (fun q => turner_Check.l2 q xs (xs.length : Int) (i : Int) n k l nx ou s) e ∧ (e = 0 ↔ ∀ x ∈ xs.drop i, 0 ≤ x ∧ x < l) := by
  intro d
  induction d with
  | zero =>
    intro i hi
    rw [List.drop_eq_nil_of_le (by omega)]
    exact ⟨0, Ev.step (fun q => by rw [turner_Check.l2]) (Ev.neg (by omega) (Ev.now _)), fun _ x hx => absurd hx (by simp), fun _ => rfl⟩
  | succ d ih =>
    intro i hi
    have hlt : i < xs.length := by omega
    obtain ⟨e, he, hie⟩ := ih (i + 1) (by omega)
    rw [drop_cons hlt 0]
    have pre : ∀ {r : Int}, Ev (fun q => if xs.getD i 0 < 0 then some 2 else if xs.getD i 0 ≥ l then some 2 else turner_Check.l2 q xs (xs.length : Int) ((i + 1 : Nat) : Int) n k l nx ou s) r → Ev (fun q => turner_Check.l2 q xs (xs.length : Int) (i : Int) n k l nx ou s) r := by
      intro r h
      refine Ev.step (fun q => by rw [turner_Check.l2]) ?_
      refine Ev.pos (by omega) (Ev.pos (by omega) (Ev.pos (by omega) ?_))
      rw [rd_nat, w64 (n := (i : Int) + 1) (by omega) (by omega)]
      exact h
    by_cases c1 : xs.getD i 0 < 0
    · exact ⟨2, pre (Ev.pos c1 (Ev.now _)), fun h => absurd h (by decide), fun h => by have := h _ List.mem_cons_self; omega⟩
    by_cases c2 : xs.getD i 0 ≥ l
    · exact ⟨2, pre (Ev.neg c1 (Ev.pos c2 (Ev.now _))), fun h => absurd h (by decide), fun h => by have := h _ List.mem_cons_self; omega⟩
    refine ⟨e, pre (Ev.neg c1 (Ev.neg c2 he)), ?_⟩
    rw [hie]
    exact ⟨fun h x hx => by rcases List.mem_cons.1 hx with rfl | hx; exact ⟨by omega, by omega⟩; exact h x hx, fun h x hx => h x (List.mem_cons_of_mem _ hx)⟩
theorem tcheck_l1 {n k l s : Int} {nx : List (List Int)} {ou : List (List (List Int))} {W : List (List Int)} (hW : W.length ≤ 1000) (hw : ∀ w ∈ W, w.length ≤ 4) (hF : W.flatten.length ≤ 1000) (xs : List Int) (hx : xs.length ≤ 1000) : ∀ (d i : Nat), i + d = xs.length → ∃ e, Ev (fun q => turner_Check.l1 q W xs (xs.length : Int) (i : Int) n k l nx ou s) e ∧ (e = 0 ↔ (∀ x ∈ xs.drop i, 0 ≤ x ∧ x < n) ∧ ∀ x ∈ W.flatten, 0 ≤ x ∧ x < l) := by
  intro d
  induction d with
  | zero =>
    intro i hi
    rw [List.drop_eq_nil_of_le (by omega)]
    obtain ⟨e, he, hie⟩ := tcheck_l2 (n := n) (k := k) (l := l) (nx := nx) (ou := ou) (s := s) W.flatten hF W.flatten.length 0 (by omega)
    rw [List.drop_zero] at hie
    refine ⟨e, Ev.step (fun q => by rw [turner_Check.l1]) (Ev.neg (by omega) (Ev.bindc (a := W.flatten) (by unfold slices_Concat_int_int_65.f; rw [if_pos ⟨by omega, by omega⟩]) he)), ?_⟩
    rw [hie]
    exact ⟨fun h => ⟨fun x hx => absurd hx (by simp), h⟩, fun h => h.2⟩
  | succ d ih =>
    intro i hi
    have hlt : i < xs.length := by omega
    obtain ⟨e, he, hie⟩ := ih (i + 1) (by omega)
    rw [drop_cons hlt 0]
    have pre : ∀ {r : Int}, Ev (fun q => if xs.getD i 0 < 0 then some 2 else if xs.getD i 0 ≥ n then some 2 else turner_Check.l1 q W xs (xs.length : Int) ((i + 1 : Nat) : Int) n k l nx ou s) r → Ev (fun q => turner_Check.l1 q W xs (xs.length : Int) (i : Int) n k l nx ou s) r := by
      intro r h
      refine Ev.step (fun q => by rw [turner_Check.l1]) ?_
      refine Ev.pos (by omega) (Ev.pos (by omega) (Ev.pos (by omega) ?_))
      rw [rd_nat, w64 (n := (i : Int) + 1) (by omega) (by omega)]
      exact h
    by_cases c1 : xs.getD i 0 < 0
    · exact ⟨2, pre (Ev.pos c1 (Ev.now _)), fun h => absurd h (by decide), fun h => by have := h.1 _ List.mem_cons_self; omega⟩
    by_cases c2 : xs.getD i 0 ≥ n
    · exact ⟨2, pre (Ev.neg c1 (Ev.pos c2 (Ev.now _))), fun h => absurd h (by decide), fun h => by have := h.1 _ List.mem_cons_self; omega⟩
    refine ⟨e, pre (Ev.neg c1 (Ev.neg c2 he)), ?_⟩
    rw [hie]
    exact ⟨fun h => ⟨fun x hx => by rcases List.mem_cons.1 hx with rfl | hx; exact ⟨by omega, by omega⟩; exact h.1 x hx, h.2⟩, fun h => ⟨fun x hx => h.1 x (List.mem_cons_of_mem _ hx), h.2⟩⟩
theorem all_rows {α : Type} {rs : List (List α)} {n k : Int} (hl : (rs.length : Int) = n) (h : ∀ i : Nat, i < n.toNat → ((rs.getD i []).length : Int) = k) : ∀ r ∈ rs, (r.length : Int) = k := by
  intro r hr
  obtain ⟨i, hi, rfl⟩ := List.getElem_of_mem hr
  have := h i (by omega)
  rwa [List.getD_eq_getElem?_getD, List.getElem?_eq_getElem hi, Option.getD_some] at this
theorem tcheck_l0 {n k l s : Int} {nx : List (List Int)} {ou : List (List (List Int))} (n1 : 1 ≤ n) (n7 : n ≤ 7) (k1 : 1 ≤ k) (k3 : k ≤ 3) (hn : (nx.length : Int) = n) (ho : (ou.length : Int) = n) : ∀ (d i : Nat), i + d = n.toNat → (∀ j : Nat, j < i → ((nx.getD j []).length : Int) = k ∧ ((ou.getD j []).length : Int) = k) →
    ∃ e, Ev (fun q => turner_Check.l0 q n (i : Int) n k l nx ou s) e ∧ (e = 0 ↔ (∀ j : Nat, j < n.toNat → ((nx.getD j []).length : Int) = k ∧ ((ou.getD j []).length : Int) = k) ∧ (∀ w ∈ ou.flatten, w.length ≤ 4) ∧ (∀ x ∈ nx.flatten ++ [s], 0 ≤ x ∧ x < n) ∧ ∀ x ∈ ou.flatten.flatten, 0 ≤ x ∧ x < l) := by
  intro d
  induction d with
  | zero =>
    intro i hi hg
    have hg2 : ∀ j : Nat, j < n.toNat → ((nx.getD j []).length : Int) = k ∧ ((ou.getD j []).length : Int) = k := fun j hj => hg j (by omega)
    have hf1 := flat_le (rs := nx) (k := 3) (fun r hr => by have := all_rows hn (fun i hi => (hg2 i hi).1) r hr; omega)
    have hf2 := flat_le (rs := ou) (k := 3) (fun r hr => by have := all_rows ho (fun i hi => (hg2 i hi).2) r hr; omega)
    have e1 : slices_Concat_int_int_66.f ou = some ou.flatten := by unfold slices_Concat_int_int_66.f; rw [if_pos ⟨by omega, by omega⟩]
    have e2 : slices_Concat_int_int_65.f nx = some nx.flatten := by unfold slices_Concat_int_int_65.f; rw [if_pos ⟨by omega, by omega⟩]
    by_cases c : ou.flatten.any (fun l => decide ((l.length : Int) > 4)) = true
    · refine ⟨1, Ev.step (fun q => by rw [turner_Check.l0]) (Ev.neg (by omega) (Ev.bindc e1 (Ev.bindc rfl (Ev.pos c (Ev.now _))))), fun h => absurd h (by decide), fun h => ?_⟩
      rw [List.any_eq_true] at c
      obtain ⟨w, hw, h2⟩ := c
      have := h.2.1 w hw
      rw [decide_eq_true_iff] at h2
      omega
    · have hsm : ∀ w ∈ ou.flatten, w.length ≤ 4 := fun w hw => by
        rcases Nat.lt_or_ge 4 w.length with h3 | h3
        · exact absurd (List.any_eq_true.2 ⟨w, hw, decide_eq_true (show ((w.length : Int) > 4) by omega)⟩) c
        · exact h3
      have hf3 := flat_le (rs := ou.flatten) (k := 4) hsm
      obtain ⟨e, he, hie⟩ := tcheck_l1 (n := n) (k := k) (l := l) (nx := nx) (ou := ou) (s := s) (W := ou.flatten) (by omega) hsm (by omega) (nx.flatten ++ [s]) (by rw [List.length_append, List.length_singleton]; omega) (nx.flatten ++ [s]).length 0 (by omega)
      rw [List.drop_zero] at hie
      refine ⟨e, ?_, ?_⟩
      · refine Ev.step (fun q => by rw [turner_Check.l0]) ?_
        refine Ev.neg (by omega) ?_
        refine Ev.bindc e1 ?_
        refine Ev.bindc (a := ou.flatten.any (fun l => decide ((l.length : Int) > 4))) rfl ?_
        refine Ev.neg c ?_
        refine Ev.bindc e2 ?_
        refine Ev.let_ ?_
        refine Ev.pos (by rw [List.length_singleton]; omega) ?_
        refine Ev.let_ ?_
        exact he
      rw [hie]
      exact ⟨fun h => ⟨hg2, hsm, h.1, h.2⟩, fun h => ⟨h.2.2.1, h.2.2.2⟩⟩
  | succ d ih =>
    intro i hi hg
    have pre : ∀ {r : Int}, Ev (fun q => if ((nx.getD i []).length : Int) = k then (if ((ou.getD i []).length : Int) = k then turner_Check.l0 q n ((i + 1 : Nat) : Int) n k l nx ou s else some 3) else some 3) r → Ev (fun q => turner_Check.l0 q n (i : Int) n k l nx ou s) r := by
      intro r h
      refine Ev.step (fun q => by rw [turner_Check.l0]) ?_
      refine Ev.pos (by omega) (Ev.pos (by omega) (Ev.pos (by omega) ?_))
      rw [rdA_nat, rdB_nat, w64 (n := (i : Int) + 1) (by omega) (by omega)]
      by_cases c : ((nx.getD i []).length : Int) = k
      · refine Ev.pos c (Ev.pos (by omega) ?_)
        exact Ev.congr (fun _ => by rw [if_pos c]; rfl) h
      · refine Ev.neg c ?_
        exact Ev.congr (fun _ => by rw [if_neg c]) h
    by_cases c1 : ((nx.getD i []).length : Int) = k
    · by_cases c2 : ((ou.getD i []).length : Int) = k
      · obtain ⟨e, he, hie⟩ := ih (i + 1) (by omega) (fun j hj => by
          by_cases c : j = i
          · rw [c]; exact ⟨c1, c2⟩
          · exact hg j (by omega))
        exact ⟨e, pre (Ev.pos c1 (Ev.pos c2 he)), hie⟩
      · exact ⟨3, pre (Ev.pos c1 (Ev.neg c2 (Ev.now _))), fun h => absurd h (by decide), fun h => absurd (h.1 i (by omega)).2 c2⟩
    · exact ⟨3, pre (Ev.neg c1 (Ev.now _)), fun h => absurd h (by decide), fun h => absurd (h.1 i (by omega)).1 c1⟩
theorem good_of {n k l s : Int} {nx : List (List Int)} {ou : List (List (List Int))} (n1 : 1 ≤ n) (n7 : n ≤ 7) (k1 : 1 ≤ k) (k3 : k ≤ 3) (l1 : 1 ≤ l) (l3 : l ≤ 3) (hn : (nx.length : Int) = n) (ho : (ou.length : Int) = n) : ((∀ j : Nat, j < n.toNat → ((nx.getD j []).length : Int) = k ∧ ((ou.getD j []).length : Int) = k) ∧ (∀ w ∈ ou.flatten, w.length ≤ 4) ∧ (∀ x ∈ nx.flatten ++ [s], 0 ≤ x ∧ x < n) ∧ ∀ x ∈ ou.flatten.flatten, 0 ≤ x ∧ x < l) ↔ GoodT n k l nx ou s := by
  constructor
  · rintro ⟨h1, h2, h3, h4⟩
    have hs := h3 s (by simp)
    exact ⟨n1, n7, k1, k3, l1, l3, hn, ho, h1, fun r hr w hw => h2 w (List.mem_flatten.2 ⟨r, hr, hw⟩), fun r hr x hx => h3 x (List.mem_append_left _ (List.mem_flatten.2 ⟨r, hr, hx⟩)), hs.1, hs.2, fun r hr w hw x hx => h4 x (List.mem_flatten.2 ⟨w, List.mem_flatten.2 ⟨r, hr, hw⟩, hx⟩)⟩
  · intro g
    refine ⟨g.row, fun w hw => ?_, fun x hx => ?_, fun x hx => ?_⟩
    · obtain ⟨r, hr, hw⟩ := List.mem_flatten.1 hw
      exact g.small r hr w hw
    · rcases List.mem_append.1 hx with hx | hx
      · obtain ⟨r, hr, hx⟩ := List.mem_flatten.1 hx
        exact g.en r hr x hx
      · rw [List.mem_singleton] at hx
        rw [hx]
        exact ⟨g.s0, g.s1⟩
    · obtain ⟨w, hw, hx⟩ := List.mem_flatten.1 hx
      obtain ⟨r, hr, hw⟩ := List.mem_flatten.1 hw
      exact g.eo r hr w hw x hx
theorem tcheck_spec {n k l s : Int} {nx : List (List Int)} {ou : List (List (List Int))} : ∃ e, Ev (fun q => turner_Check.f q n k l nx ou s) e ∧ (e = 0 ↔ GoodT n k l nx ou s) := by
  have one : Ev (fun q => turner_Check.j0 q true n k l nx ou s) 1 := Ev.step (fun q => by rw [turner_Check.j0]) (Ev.pos rfl (Ev.now _))
  have three : Ev (fun q => turner_Check.j1 q true n k l nx ou s) 3 := Ev.step (fun q => by rw [turner_Check.j1]) (Ev.pos rfl (Ev.now _))
  have emn : mn k l < 1 ↔ k < 1 ∨ l < 1 := by unfold mn; split <;> omega
  have emx : mx k l > 3 ↔ k > 3 ∨ l > 3 := by unfold mx; split <;> omega
  by_cases a1 : n < 1
  · exact ⟨1, Ev.congr (fun q => by rw [turner_Check.f]) (Ev.pos a1 one), fun h => absurd h (by decide), fun h => by have := h.n1; omega⟩
  by_cases a2 : n > 7
  · exact ⟨1, Ev.congr (fun q => by rw [turner_Check.f]) (Ev.neg a1 (Ev.pos a2 one)), fun h => absurd h (by decide), fun h => by have := h.n7; omega⟩
  by_cases a3 : mn k l < 1
  · exact ⟨1, Ev.congr (fun q => by rw [turner_Check.f]) (Ev.neg a1 (Ev.neg a2 (Ev.pos a3 one))), fun h => absurd h (by decide), fun h => by have := h.k1; have := h.l1; have := emn.1 a3; omega⟩
  by_cases a4 : mx k l > 3
  · refine ⟨1, Ev.congr (fun q => by rw [turner_Check.f]) (Ev.neg a1 (Ev.neg a2 (Ev.neg a3 ?_))), fun h => absurd h (by decide), fun h => by have := h.k3; have := h.l3; have := emx.1 a4; omega⟩
    rw [decide_eq_true a4]
    exact one
  have pre : ∀ {t : Bool} {r : Int}, (nx.length : Int) = n ∧ t = ((ou.length : Int) != n) ∨ ¬ (nx.length : Int) = n ∧ t = true → Ev (fun q => turner_Check.j1 q t n k l nx ou s) r → Ev (fun q => turner_Check.f q n k l nx ou s) r := by
    intro t r ht h
    refine Ev.congr (fun q => by rw [turner_Check.f]) (Ev.neg a1 (Ev.neg a2 (Ev.neg a3 ?_)))
    rw [decide_eq_false a4]
    refine Ev.step (fun q => by rw [turner_Check.j0]) (Ev.neg (by decide) ?_)
    rcases ht with ⟨h1, h2⟩ | ⟨h1, h2⟩
    · refine Ev.pos h1 ?_
      rw [← h2]
      exact h
    · refine Ev.neg h1 ?_
      rw [← h2]
      exact h
  by_cases a5 : (nx.length : Int) = n
  · by_cases a6 : (ou.length : Int) = n
    · rw [emn] at a3
      rw [emx] at a4
      obtain ⟨e, he, hie⟩ := tcheck_l0 (n := n) (k := k) (l := l) (s := s) (nx := nx) (ou := ou) (by omega) (by omega) (by omega) (by omega) a5 a6 n.toNat 0 (by omega) (fun j hj => absurd hj (Nat.not_lt_zero _))
      refine ⟨e, pre (t := false) (.inl ⟨a5, by simp [a6]⟩) ?_, ?_⟩
      · refine Ev.step (fun q => by rw [turner_Check.j1]) ?_
        refine Ev.neg (by decide) ?_
        exact he
      rw [hie]
      exact good_of (by omega) (by omega) (by omega) (by omega) (by omega) (by omega) a5 a6
    · exact ⟨3, pre (t := true) (.inl ⟨a5, by simp [a6]⟩) three, fun h => absurd h (by decide), fun h => absurd h.lo a6⟩
  · exact ⟨3, pre (t := true) (.inr ⟨a5, rfl⟩) three, fun h => absurd h (by decide), fun h => absurd h.ln a5⟩
end Go.Proofs.Ytiiankjmeodjdaa.PVM

namespace Go.Proofs.Ytiiankjmeodjdaa.PVM
set_option linter.unusedVariables false
set_option linter.unusedSimpArgs false
open Go.RowKit Go.Proofs.Ytiiankjmeodjdaa.GV Go.Proofs.YtiiankjmeodjdaaW.PrintWords Go.Proofs.YtiiankjmeodjdaaW.PrintLast Go.Proofs.YtiiankjmeodjdaaW.PrintMore

def stepT (nx : List (List Int)) (a s : Int) : Int := (nx.getD a.toNat []).getD s.toNat 0
def outS (ou : List (List (List Int))) (a s : Int) : List Int := (ou.getD a.toNat []).getD s.toNat []
/-- Where a word leads, and what is written. -/
def leadsT (nx : List (List Int)) (a : Int) (w : List Int) : Int := w.foldl (stepT nx) a
def outT (nx : List (List Int)) (ou : List (List (List Int))) : Int → List Int → List Int
  | _, [] => []
  | a, s :: w => outS ou a s ++ outT nx ou (stepT nx a s) w
theorem stepT_in {n k l st : Int} {nx : List (List Int)} {ou : List (List (List Int))} (g : GoodT n k l nx ou st) {a s : Int} (ha : 0 ≤ a ∧ a < n) (hs : 0 ≤ s ∧ s < k) : (0 ≤ stepT nx a s ∧ stepT nx a s < n) ∧ (outS ou a s).length ≤ 4 := by
  have hln := g.ln
  have hlo := g.lo
  have hr := g.row a.toNat (by omega)
  have m1 : nx.getD a.toNat [] ∈ nx := getD_mem (by omega)
  have m2 : ou.getD a.toNat [] ∈ ou := getD_mem (by omega)
  exact ⟨g.en _ m1 _ (getD_mem (by omega)), g.small _ m2 _ (getD_mem (by omega))⟩
theorem outT_app {nx : List (List Int)} {ou : List (List (List Int))} : ∀ {u v : List Int} {a : Int}, outT nx ou a (u ++ v) = outT nx ou a u ++ outT nx ou (leadsT nx a u) v
  | [], v, a => by rfl
  | s :: u, v, a => by
    show outS ou a s ++ outT nx ou (stepT nx a s) (u ++ v) = (outS ou a s ++ outT nx ou (stepT nx a s) u) ++ outT nx ou (leadsT nx (stepT nx a s) u) v
    rw [outT_app, List.append_assoc]
theorem outT_len {n k l st : Int} {nx : List (List Int)} {ou : List (List (List Int))} (g : GoodT n k l nx ou st) : ∀ {w : List Int} {a : Int}, (∀ s ∈ w, 0 ≤ s ∧ s < k) → 0 ≤ a ∧ a < n → (outT nx ou a w).length ≤ 4 * w.length
  | [], a, _, _ => by simp [outT]
  | s :: w, a, hw, ha => by
    have h1 := stepT_in g ha (hw s List.mem_cons_self)
    have h2 := outT_len g (w := w) (fun x hx => hw x (List.mem_cons_of_mem _ hx)) h1.1
    rw [outT, List.length_append, List.length_cons]
    have := h1.2
    omega
theorem twrite_l0 {n k l st : Int} {nx : List (List Int)} {ou : List (List (List Int))} (g : GoodT n k l nx ou st) (w : List Int) (hw : GoodW k w) : ∀ (d i : Nat) (a : Int) (acc : List Int), i + d = w.length → 0 ≤ a ∧ a < n → acc.length ≤ 4 * i → Ev (fun q => turner_write.l0 q a acc w (w.length : Int) (i : Int) n k l nx ou st) (acc ++ outT nx ou a (w.drop i), leadsT nx a (w.drop i)) := by
  have hwl := hw.1
  have hk3 := g.k3
  have hln := g.ln
  have hlo := g.lo
  have hn7 := g.n7
  intro d
  induction d with
  | zero =>
    intro i a acc hi ha hl
    rw [List.drop_eq_nil_of_le (by omega)]
    refine Ev.step (fun q => by rw [turner_write.l0]) (Ev.neg (by omega) (Ev.val ?_))
    rw [outT, List.append_nil]
    rfl
  | succ d ih =>
    intro i a acc hi ha hl
    have hlt : i < w.length := by omega
    have hs := hw.2 _ (getD_mem (d := (0 : Int)) hlt)
    obtain ⟨A, rfl⟩ := Int.eq_ofNat_of_zero_le ha.1
    have hr := g.row A (by omega)
    obtain ⟨h1, h2⟩ := stepT_in g ha hs
    rw [drop_cons hlt 0]
    refine Ev.step (fun q => by rw [turner_write.l0]) (Ev.pos (by omega) (Ev.pos (by omega) (Ev.pos (by omega) (Ev.pos (by omega) (Ev.pos (by omega) ?_)))))
    rw [rd_nat, w64 (n := (i : Int) + 1) (by omega) (by omega), rdB_nat, rdA_nat]
    generalize w.getD i 0 = s at *
    obtain ⟨S, rfl⟩ := Int.eq_ofNat_of_zero_le hs.1
    rw [rdA_nat, rd_nat]
    refine Ev.pos (by omega) (Ev.pos (by omega) ?_)
    have e1 : outS ou (A : Int) (S : Int) = (ou.getD A []).getD S [] := by unfold outS; rw [Int.toNat_natCast, Int.toNat_natCast]
    have e2 : stepT nx (A : Int) (S : Int) = (nx.getD A []).getD S 0 := by unfold stepT; rw [Int.toNat_natCast, Int.toNat_natCast]
    rw [e1] at h2
    refine Ev.pos (by omega) (Ev.pos (by omega) (Ev.pos (by omega) ?_))
    have h3 := ih (i + 1) (stepT nx (A : Int) (S : Int)) (acc ++ outS ou (A : Int) (S : Int)) (by omega) h1 (by rw [List.length_append, e1]; omega)
    rw [List.append_assoc, e2, e1] at h3
    rw [outT, e1, e2]
    exact h3
theorem twrite_good {n k l st : Int} {nx : List (List Int)} {ou : List (List (List Int))} (g : GoodT n k l nx ou st) (w : List Int) (hw : GoodW k w) {a : Int} (ha : 0 ≤ a ∧ a < n) : Ev (fun q => turner_write.f q n k l nx ou st a w) (outT nx ou a w, leadsT nx a w) := by
  refine Ev.congr (fun q => by rw [turner_write.f]) ?_
  have := twrite_l0 g w hw w.length 0 a [] (by omega) ha (by simp)
  rw [List.drop_zero, List.nil_append] at this
  exact this
theorem trun_good {n k l st : Int} {nx : List (List Int)} {ou : List (List (List Int))} (g : GoodT n k l nx ou st) (w : List Int) (hw : GoodW k w) : Ev (fun q => turner_Run.f q n k l nx ou st w) (outT nx ou st w, 0) := by
  obtain ⟨e, he, hi⟩ := tcheck_spec (n := n) (k := k) (l := l) (nx := nx) (ou := ou) (s := st)
  obtain ⟨e2, he2, hi2⟩ := words_spec k w
  refine Ev.congr (fun q => by rw [turner_Run.f]) ?_
  refine Ev.bind he ?_
  refine Ev.pos (hi.2 g) ?_
  refine Ev.bindc he2 ?_
  refine Ev.pos (hi2.2 hw) ?_
  refine Ev.bind (twrite_good g w hw ⟨g.s0, g.s1⟩) ?_
  exact Ev.now _
theorem trun_bad {n k l st : Int} {nx : List (List Int)} {ou : List (List (List Int))} (w : List Int) (hn : ¬ (GoodT n k l nx ou st ∧ GoodW k w)) : ∃ e, e ≠ 0 ∧ Ev (fun q => turner_Run.f q n k l nx ou st w) ([], e) := by
  obtain ⟨e, he, hi⟩ := tcheck_spec (n := n) (k := k) (l := l) (nx := nx) (ou := ou) (s := st)
  obtain ⟨e2, he2, hi2⟩ := words_spec k w
  by_cases c : e = 0
  · have c2 : ¬ e2 = 0 := fun h => hn ⟨hi.1 c, hi2.1 h⟩
    exact ⟨e2, c2, Ev.congr (fun q => by rw [turner_Run.f]) (Ev.bind he (Ev.pos c (Ev.bindc he2 (Ev.neg c2 (Ev.now _)))))⟩
  · exact ⟨e, c, Ev.congr (fun q => by rw [turner_Run.f]) (Ev.bind he (Ev.neg c (Ev.now _)))⟩
end Go.Proofs.Ytiiankjmeodjdaa.PVM

namespace Go.Proofs.Ytiiankjmeodjdaa.PVM
set_option linter.unusedVariables false
set_option linter.unusedSimpArgs false
open Go.RowKit Go.Proofs.Ytiiankjmeodjdaa.GV Go.Proofs.YtiiankjmeodjdaaW.PrintWords Go.Proofs.YtiiankjmeodjdaaW.PrintLast Go.Proofs.YtiiankjmeodjdaaW.PrintMore

theorem rdL_nat (xs : List (List Int)) (i : Nat) : rd_L1 xs (i : Int) = xs.getD i [] := by simp [rd_L1]
/-- A machine as the document has it. -/
structure GoodM (n k : Int) (nx : List (List Int)) (s f : Int) : Prop where
  n1 : 1 ≤ n
  n7 : n ≤ 7
  k1 : 1 ≤ k
  k3 : k ≤ 3
  len : (nx.length : Int) = n
  row : ∀ l ∈ nx, (l.length : Int) = k
  tgt : ∀ l ∈ nx, ∀ x ∈ l, 0 ≤ x ∧ x < n
  s0 : 0 ≤ s
  s1 : s < n
  f1 : f < 2 ^ n.toNat

theorem check_loop (n k : Int) (nx : List (List Int)) (s f : Int) (h0 : 0 ≤ f) (h1 : f < 4294967296) (hn : 0 ≤ n) (l : List Int) (hl : l.length ≤ 1000) : ∀ (d i : Nat), i + d = l.length →
    Ev (fun q => machine_Check.l0 q l (l.length : Int) (i : Int) n k nx s f) (if (l.drop i).all (okN n) = true then (if f < 2 ^ n.toNat then 0 else 4) else 2) := by
  intro d
  induction d with
  | zero =>
    intro i hi
    refine Ev.step (fun q => by rw [machine_Check.l0]) (Ev.neg (by omega) (Ev.pos hn ?_))
    rw [List.drop_eq_nil_of_le (by omega)]
    by_cases hf : f < 2 ^ n.toNat
    · exact Ev.pos ((shr_zero h0 h1 hn).2 hf) (by rw [if_pos hf]; exact Ev.now _)
    · exact Ev.neg (fun h => hf ((shr_zero h0 h1 hn).1 h)) (by rw [if_neg hf]; exact Ev.now _)
  | succ d ih =>
    intro i hi
    have hlt : i < l.length := by omega
    refine Ev.step (fun q => by rw [machine_Check.l0]) (Ev.pos (by omega) (Ev.pos (by omega) (Ev.pos (by omega) ?_)))
    rw [rd_nat, drop_cons hlt 0, List.all_cons]
    generalize l.getD i 0 = x
    by_cases h1 : x < 0
    · refine Ev.pos h1 ?_
      rw [show okN n x = false by simp [okN]; omega]
      exact Ev.now _
    · refine Ev.neg h1 ?_
      by_cases h2 : x ≥ n
      · refine Ev.pos h2 ?_
        rw [show okN n x = false by simp [okN]; omega]
        exact Ev.now _
      · refine Ev.neg h2 ?_
        rw [show okN n x = true by simp [okN]; omega, Bool.true_and, w64 (n := (i : Int) + 1) (by omega) (by omega)]
        exact ih (i + 1) (by omega)
theorem flatten_le {nx : List (List Int)} {k : Nat} (h : ∀ l ∈ nx, l.length ≤ k) : nx.flatten.length ≤ nx.length * k := by
  induction nx with
  | nil => simp
  | cons x xs ih =>
    have := h x List.mem_cons_self
    have := ih fun l hl => h l (List.mem_cons_of_mem _ hl)
    rw [List.flatten_cons, List.length_append, List.length_cons, Nat.succ_mul]
    omega
theorem check_spec {n k : Int} {nx : List (List Int)} {s f : Int} (h0 : 0 ≤ f) (h1 : f < 4294967296) : ∃ e, Ev (fun q => machine_Check.f q n k nx s f) e ∧ (e = 0 ↔ GoodM n k nx s f) := by
  by_cases a1 : n < 1
  · exact ⟨1, Ev.congr (fun q => by rw [machine_Check.f]) (Ev.pos a1 (Ev.step (fun q => by rw [machine_Check.j0]) (Ev.pos rfl (Ev.now _)))), fun h => absurd h (by decide), fun h => by have := h.n1; omega⟩
  by_cases a2 : n > 7
  · exact ⟨1, Ev.congr (fun q => by rw [machine_Check.f]) (Ev.neg a1 (Ev.pos a2 (Ev.step (fun q => by rw [machine_Check.j0]) (Ev.pos rfl (Ev.now _))))), fun h => absurd h (by decide), fun h => by have := h.n7; omega⟩
  by_cases a3 : k < 1
  · exact ⟨1, Ev.congr (fun q => by rw [machine_Check.f]) (Ev.neg a1 (Ev.neg a2 (Ev.pos a3 (Ev.step (fun q => by rw [machine_Check.j0]) (Ev.pos rfl (Ev.now _)))))), fun h => absurd h (by decide), fun h => by have := h.k1; omega⟩
  by_cases a4 : k > 3
  · exact ⟨1, Ev.congr (fun q => by rw [machine_Check.f]) (Ev.neg a1 (Ev.neg a2 (Ev.neg a3 (Ev.step (fun q => by rw [machine_Check.j0]) (Ev.pos (by simpa using a4) (Ev.now _)))))), fun h => absurd h (by decide), fun h => by have := h.k3; omega⟩
  have pre : ∀ {r : Int}, Ev (fun q => if (nx.length : Int) = n then ((machine_Check_any.f nx k).bind fun t102 => (machine_Check.j1 q t102 n k nx s f)) else (machine_Check.j1 q true n k nx s f)) r → Ev (fun q => machine_Check.f q n k nx s f) r := fun h =>
    Ev.congr (fun q => by rw [machine_Check.f]) (Ev.neg a1 (Ev.neg a2 (Ev.neg a3 (Ev.step (fun q => by rw [machine_Check.j0]) (Ev.neg (by simpa using a4) h)))))
  have three : Ev (fun q => machine_Check.j1 q true n k nx s f) 3 := Ev.step (fun q => by rw [machine_Check.j1]) (Ev.pos rfl (Ev.now _))
  by_cases a5 : (nx.length : Int) = n
  · by_cases a6 : (nx.any fun l => (l.length : Int) != k) = true
    · refine ⟨3, pre (Ev.pos a5 (Ev.bindc rfl ?_)), fun h => absurd h (by decide), fun h => ?_⟩
      · rw [a6]; exact three
      · rw [List.any_eq_true] at a6
        obtain ⟨l, hl, hb⟩ := a6
        have := h.row l hl
        simp at hb
        omega
    · have a6' := Bool.eq_false_iff.2 a6
      have hrow : ∀ l ∈ nx, (l.length : Int) = k := fun l hl => by
        have := fun h => a6 (List.any_eq_true.2 ⟨l, hl, h⟩)
        simpa using this
      have hfl : nx.flatten.length ≤ nx.length * 3 := flatten_le fun l hl => by have := hrow l hl; omega
      have hc : slices_Concat_int_int_65.f nx = some nx.flatten := by
        unfold slices_Concat_int_int_65.f
        rw [if_pos ⟨by omega, by omega⟩]
      refine ⟨(if (nx.flatten ++ [s]).all (okN n) = true then (if f < 2 ^ n.toNat then 0 else 4) else 2), pre (Ev.pos a5 (Ev.bindc rfl ?_)), ?_⟩
      · rw [a6']
        refine Ev.step (fun q => by rw [machine_Check.j1]) (Ev.neg (by simp) (Ev.bindc hc ?_))
        refine Ev.let_ ?_
        refine Ev.pos (show nx.flatten.length + [s].length < 17592186044416 by rw [List.length_singleton]; omega) ?_
        refine Ev.let_ ?_
        have := check_loop n k nx s f h0 h1 (by omega) (nx.flatten ++ [s]) (by rw [List.length_append, List.length_singleton]; omega) (nx.flatten ++ [s]).length 0 (by omega)
        rw [List.drop_zero] at this
        exact this
      · constructor
        · intro h
          by_cases b1 : (nx.flatten ++ [s]).all (okN n) = true
          · rw [if_pos b1] at h
            by_cases b2 : f < 2 ^ n.toNat
            · rw [List.all_eq_true] at b1
              have hs := okN_iff.1 (b1 s (by simp))
              exact ⟨by omega, by omega, by omega, by omega, a5, hrow, fun l hl x hx => okN_iff.1 (b1 x (by simp; exact .inl ⟨l, hl, hx⟩)), hs.1, hs.2, b2⟩
            · rw [if_neg b2] at h; exact absurd h (by decide)
          · rw [if_neg b1] at h; exact absurd h (by decide)
        · intro h
          have b1 : (nx.flatten ++ [s]).all (okN n) = true := by
            rw [List.all_eq_true]
            intro x hx
            rw [okN_iff]
            simp at hx
            rcases hx with ⟨l, hl, hx⟩ | rfl
            · exact h.tgt l hl x hx
            · exact ⟨h.s0, h.s1⟩
          rw [if_pos b1, if_pos h.f1]
  · exact ⟨3, pre (Ev.neg a5 three), fun h => absurd h (by decide), fun h => absurd h.len a5⟩

/-- Where a machine is led by a symbol, and by a word. -/
def stepM (nx : List (List Int)) (a s : Int) : Int := (nx.getD a.toNat []).getD s.toNat 0
def leads (nx : List (List Int)) (a : Int) (w : List Int) : Int := w.foldl (stepM nx) a
theorem stepM_in {n k : Int} {nx : List (List Int)} {st f : Int} (h : GoodM n k nx st f) {a s : Int} (ha : 0 ≤ a ∧ a < n) (hs : 0 ≤ s ∧ s < k) : 0 ≤ stepM nx a s ∧ stepM nx a s < n := by
  have h1 := h.len
  have hm : nx.getD a.toNat [] ∈ nx := getD_mem (by omega)
  have h2 := h.row _ hm
  exact h.tgt _ hm _ (getD_mem (by omega))
theorem leads_in {n k : Int} {nx : List (List Int)} {st f : Int} (h : GoodM n k nx st f) : ∀ {w : List Int} {a : Int}, (∀ s ∈ w, 0 ≤ s ∧ s < k) → 0 ≤ a ∧ a < n → 0 ≤ leads nx a w ∧ leads nx a w < n
  | [], a, _, ha => ha
  | s :: w, a, hw, ha => leads_in h (w := w) (fun x hx => hw x (List.mem_cons_of_mem _ hx)) (stepM_in h ha (hw s List.mem_cons_self))
theorem run_loop {n k : Int} {nx : List (List Int)} {st f : Int} (h : GoodM n k nx st f) (h0 : 0 ≤ f) (h1 : f < 4294967296) (w : List Int) (hw : GoodW k w) (n' k' st' : Int) : ∀ (d i : Nat) (a : Int), i + d = w.length → 0 ≤ a ∧ a < n →
    Ev (fun q => machine_Run.l0 q a w (w.length : Int) (i : Int) n' k' nx st' f) (leads nx a (w.drop i), bit f (leads nx a (w.drop i)), 0) := by
  intro d
  induction d with
  | zero =>
    intro i a hi ha
    refine Ev.step (fun q => by rw [machine_Run.l0]) (Ev.neg (by omega) ?_)
    rw [List.drop_eq_nil_of_le (by omega)]
    refine Ev.pos ha.1 (Ev.val ?_)
    rw [shr_bit h0 h1 ha.1]
    show _ = some (a, bit f a, 0)
    cases bit f a <;> rfl
  | succ d ih =>
    intro i a hi ha
    have hlt : i < w.length := by omega
    have hwl := hw.1
    have hm : w.getD i 0 ∈ w := getD_mem hlt
    have hs := hw.2 _ hm
    have e1 := h.len
    have hm2 : nx.getD a.toNat [] ∈ nx := getD_mem (by omega)
    have e2 := h.row _ hm2
    refine Ev.step (fun q => by rw [machine_Run.l0]) (Ev.pos (by omega) (Ev.pos (by omega) (Ev.pos (by omega) (Ev.pos ha.1 (Ev.pos (by omega) ?_)))))
    rw [rd_nat, show rd_L1 nx a = nx.getD a.toNat [] from rfl]
    refine Ev.pos hs.1 (Ev.pos (by omega) ?_)
    rw [w64 (n := (i : Int) + 1) (by omega) (by omega), show rd (nx.getD a.toNat []) (w.getD i 0) = stepM nx a (w.getD i 0) from rfl, drop_cons hlt 0]
    exact ih (i + 1) _ (by omega) (stepM_in h ha hs)
theorem run_good {n k : Int} {nx : List (List Int)} {st f : Int} (h : GoodM n k nx st f) (h0 : 0 ≤ f) (h1 : f < 4294967296) (w : List Int) (hw : GoodW k w) :
    Ev (fun q => machine_Run.f q n k nx st f w) (leads nx st w, bit f (leads nx st w), 0) := by
  obtain ⟨e, he, hi⟩ := check_spec (n := n) (k := k) (nx := nx) (s := st) h0 h1
  obtain ⟨e2, he2, hi2⟩ := words_spec k w
  have := run_loop h h0 h1 w hw n k st w.length 0 st (by omega) ⟨h.s0, h.s1⟩
  rw [List.drop_zero] at this
  exact Ev.congr (fun q => by rw [machine_Run.f]) (Ev.bind he (Ev.pos (hi.2 h) (Ev.bindc he2 (Ev.pos (hi2.2 hw) this))))
theorem run_bad {n k : Int} {nx : List (List Int)} {st f : Int} (h0 : 0 ≤ f) (h1 : f < 4294967296) (w : List Int) (hn : ¬ (GoodM n k nx st f ∧ GoodW k w)) :
    ∃ e, e ≠ 0 ∧ Ev (fun q => machine_Run.f q n k nx st f w) (0, false, e) := by
  obtain ⟨e, he, hi⟩ := check_spec (n := n) (k := k) (nx := nx) (s := st) h0 h1
  obtain ⟨e2, he2, hi2⟩ := words_spec k w
  by_cases c : e = 0
  · have c2 : ¬ e2 = 0 := fun h => hn ⟨hi.1 c, hi2.1 h⟩
    exact ⟨e2, c2, Ev.congr (fun q => by rw [machine_Run.f]) (Ev.bind he (Ev.pos c (Ev.bindc he2 (Ev.neg c2 (Ev.now _)))))⟩
  · exact ⟨e, c, Ev.congr (fun q => by rw [machine_Run.f]) (Ev.bind he (Ev.neg c (Ev.now _)))⟩
end Go.Proofs.Ytiiankjmeodjdaa.PVM

namespace Go.Proofs.Ytiiankjmeodjdaa.PVM
set_option linter.unusedVariables false
set_option linter.unusedSimpArgs false
open Go.RowKit Go.Proofs.Ytiiankjmeodjdaa.GV Go.Proofs.YtiiankjmeodjdaaW.PrintWords Go.Proofs.YtiiankjmeodjdaaW.PrintLast Go.Proofs.YtiiankjmeodjdaaW.PrintMore

theorem or_none {S : Nat} (hS : S < 4294967296) (t : Int) : Go.bits .or .u32 (S : Int) (shl .u32 0 t) = (S : Int) := by
  rw [show shl .u32 0 t = ((0 : Nat) : Int) by unfold shl; rw [IntKind.wrap_u32']; simp, u32_or_nat _ _ hS (by omega), Nat.or_zero]
/-- Where a pair leads. -/
def stepP (tx : List (List Int)) (ou : List (List (List Int))) (mx_ : List (List Int)) (bn : Nat) (i j s : Nat) : Int := stepT tx i s * bn + leads mx_ j (outS ou i s)
def rowP (tx : List (List Int)) (ou : List (List (List Int))) (mx_ : List (List Int)) (bn kn i j : Nat) : List Int := (List.range kn).map fun s : Nat => stepP tx ou mx_ bn i j s
def rowsAt (tx : List (List Int)) (ou : List (List (List Int))) (mx_ : List (List Int)) (bn kn : Nat) : Nat → List (List Int)
  | 0 => []
  | c + 1 => rowsAt tx ou mx_ bn kn c ++ [rowP tx ou mx_ bn kn (c / bn) (c % bn)]
def finAt (f : Int) (bn : Nat) : Nat → Nat
  | 0 => 0
  | c + 1 => if bit f (c % bn : Nat) = true then finAt f bn c ||| 2 ^ c else finAt f bn c
theorem rows_inv (tx : List (List Int)) (ou : List (List (List Int))) (mx_ : List (List Int)) (bn kn : Nat) : ∀ c, (rowsAt tx ou mx_ bn kn c).length = c ∧ ∀ p, p < c → (rowsAt tx ou mx_ bn kn c).getD p [] = rowP tx ou mx_ bn kn (p / bn) (p % bn)
  | 0 => ⟨rfl, fun p hp => absurd hp (Nat.not_lt_zero _)⟩
  | c + 1 => by
    obtain ⟨h1, h2⟩ := rows_inv tx ou mx_ bn kn c
    refine ⟨by rw [rowsAt, List.length_append, h1]; rfl, fun p hp => ?_⟩
    rw [rowsAt]
    rcases Nat.lt_or_ge p c with hc | hc
    · rw [← h2 p hc, List.getD_eq_getElem?_getD, List.getElem?_append_left (by omega), List.getD_eq_getElem?_getD]
    · obtain rfl : p = c := by omega
      rw [List.getD_eq_getElem?_getD, List.getElem?_append_right (by omega), h1]
      simp
theorem fin_inv (f : Int) (bn : Nat) : ∀ c, finAt f bn c < 2 ^ c ∧ ∀ p, (finAt f bn c).testBit p = (decide (p < c) && bit f (p % bn : Nat))
  | 0 => ⟨by simp [finAt], fun p => by simp [finAt]⟩
  | c + 1 => by
    obtain ⟨h3, h4⟩ := fin_inv f bn c
    have h5 : 2 ^ c < 2 ^ (c + 1) := Nat.pow_lt_pow_right (by omega) (by omega)
    rw [finAt]
    by_cases hb : bit f (c % bn : Nat) = true
    · rw [if_pos hb]
      refine ⟨Nat.or_lt_two_pow (Nat.lt_trans h3 h5) h5, fun p => ?_⟩
      rw [Nat.testBit_or, h4, Nat.testBit_two_pow]
      by_cases e : c = p
      · subst e; rw [hb]; simp
      · by_cases hc : p < c
        · rw [decide_eq_true hc, decide_eq_false e, decide_eq_true (by omega : p < c + 1)]; simp
        · rw [decide_eq_false hc, decide_eq_false e, decide_eq_false (by omega : ¬ p < c + 1)]; simp
    · rw [if_neg hb]
      refine ⟨Nat.lt_trans h3 h5, fun p => ?_⟩
      rw [h4]
      by_cases e : c = p
      · subst e; rw [Bool.eq_false_iff.2 hb]; simp
      · by_cases hc : p < c
        · rw [decide_eq_true hc, decide_eq_true (by omega : p < c + 1)]
        · rw [decide_eq_false hc, decide_eq_false (by omega : ¬ p < c + 1)]
section
variable {tn tk tl ts mn_ mk ms mf : Int} {tx : List (List Int)} {ou : List (List (List Int))} {mx_ : List (List Int)}
theorem takes_l3 (gt : GoodT tn tk tl tx ou ts) (gm : GoodM mn_ mk mx_ ms mf) (hk : tl = mk) (hn : tn * mn_ ≤ 7) (i : Nat) (hi : (i : Int) < tn) (s : Nat) (hs : (s : Int) < tk) (j : Int) (acc : List Int) (hacc : acc.length ≤ 3) (x58 x59 x63 x64 x68 N' K' S' F' : Int) (rows : List (List Int)) (w : List Int) (hw : w.length ≤ 4) (hws : ∀ x ∈ w, 0 ≤ x ∧ x < mk) {r : Int × Int × List (List Int) × Int × Int × Int} : ∀ (d p : Nat) (tq_ : Int), p + d = w.length → 0 ≤ tq_ ∧ tq_ < mn_ →
    Ev (fun q => turner_Takes.l2 q (i : Int) j (acc ++ [stepT tx i s * mn_ + leads mx_ tq_ (w.drop p)]) x58 x59 x63 x64 x68 ((s + 1 : Nat) : Int) tn tk tl tx ou ts mn_ mk mx_ ms mf N' K' rows S' F') r →
    Ev (fun q => turner_Takes.l3 q (i : Int) j acc (s : Int) tq_ x58 x59 x63 x64 x68 (s : Int) w (w.length : Int) (p : Int) tn tk tl tx ou ts mn_ mk mx_ ms mf N' K' rows S' F') r := by
  have q1 := gt.n1; have q2 := gt.n7; have q3 := gt.k3; have q4 := gt.ln; have q5 := gm.n1; have q6 := gm.n7; have q7 := gm.len
  intro d
  induction d with
  | zero =>
    intro p tq_ hp ht h
    rw [List.drop_eq_nil_of_le (by omega)] at h
    have hst := (stepT_in gt (a := i) (s := s) (by omega) (by omega)).1
    have hr := (gt.row i (by omega)).1
    have hm : 0 ≤ stepT tx i s * mn_ ∧ stepT tx i s * mn_ ≤ 49 := ⟨Int.mul_nonneg hst.1 (by omega), by have : stepT tx i s * mn_ ≤ 7 * 7 := Int.mul_le_mul (by omega) (by omega) (by omega) (by omega); omega⟩
    refine Ev.step (fun q => by rw [turner_Takes.l3]) (Ev.neg (by omega) ?_)
    refine Ev.pos (by omega) (Ev.pos (by omega) (Ev.pos (by omega) ?_))
    rw [rdA_nat]
    refine Ev.pos (by omega) (Ev.pos (by omega) ?_)
    rw [show rd (tx.getD i []) (s : Int) = stepT tx i s from rfl, w64 (n := stepT tx i s * mn_) (by omega) (by omega), w64 (n := stepT tx i s * mn_ + tq_) (by omega) (by omega), w64 (n := (s : Int) + 1) (by omega) (by omega)]
    exact h
  | succ d ih =>
    intro p tq_ hp ht h
    have hlt : p < w.length := by omega
    have hx := hws _ (getD_mem (d := (0 : Int)) hlt)
    have hst := stepM_in gm ht hx
    rw [drop_cons hlt 0] at h
    have h2 := ih (p + 1) _ (by omega) hst h
    obtain ⟨T, rfl⟩ := Int.eq_ofNat_of_zero_le ht.1
    have m1 : mx_.getD T [] ∈ mx_ := getD_mem (by omega)
    have hr := gm.row _ m1
    refine Ev.step (fun q => by rw [turner_Takes.l3]) (Ev.pos (by omega) (Ev.pos (by omega) (Ev.pos (by omega) (Ev.pos (by omega) (Ev.pos (by omega) ?_)))))
    rw [rd_nat, rdA_nat, w64 (n := (p : Int) + 1) (by omega) (by omega)]
    refine Ev.pos (by omega) (Ev.pos (by omega) ?_)
    rw [show rd (mx_.getD T []) (w.getD p 0) = stepM mx_ (T : Int) (w.getD p 0) from rfl]
    exact h2
theorem takes_l2 (gt : GoodT tn tk tl tx ou ts) (gm : GoodM mn_ mk mx_ ms mf) (hk : tl = mk) (hn : tn * mn_ ≤ 7) (i : Nat) (hi : (i : Int) < tn) (j : Nat) (hj : (j : Int) < mn_) (x58 x59 x63 x64 N' K' S' F' : Int) (rows : List (List Int)) {r : Int × Int × List (List Int) × Int × Int × Int} : ∀ (d s : Nat) (acc : List Int), (s : Int) + d = tk → acc.length = s →
    Ev (fun q => turner_Takes.l2 q (i : Int) (j : Int) (acc ++ (List.range' s d).map fun t : Nat => stepP tx ou mx_ mn_.toNat i j t) x58 x59 x63 x64 tk tk tn tk tl tx ou ts mn_ mk mx_ ms mf N' K' rows S' F') r →
    Ev (fun q => turner_Takes.l2 q (i : Int) (j : Int) acc x58 x59 x63 x64 tk (s : Int) tn tk tl tx ou ts mn_ mk mx_ ms mf N' K' rows S' F') r := by
  have q1 := gt.n1; have q2 := gt.n7; have q3 := gt.k3; have q4 := gt.lo; have q5 := gm.n1
  intro d
  induction d with
  | zero =>
    intro s acc hs hl h
    rw [show tk = (s : Int) by omega] at h ⊢
    simpa using h
  | succ d ih =>
    intro s acc hs hl h
    have hr := (gt.row i (by omega)).2
    have m1 : ou.getD i [] ∈ ou := getD_mem (by omega)
    have m2 : (ou.getD i []).getD s [] ∈ ou.getD i [] := getD_mem (by omega)
    refine Ev.step (fun q => by rw [turner_Takes.l2]) (Ev.pos (by omega) (Ev.pos (by omega) (Ev.pos (by omega) (Ev.pos (by omega) ?_))))
    rw [rdB_nat, rdA_nat]
    refine Ev.pos (by omega) ?_
    refine takes_l3 gt gm hk hn i hi s (by omega) (j : Int) acc (by omega) x58 x59 x63 x64 tk N' K' S' F' rows _ (gt.small _ m1 _ m2) (fun x hx => by rw [← hk]; exact gt.eo _ m1 _ m2 x hx) ((ou.getD i []).getD s []).length 0 (j : Int) (by omega) ⟨by omega, hj⟩ ?_
    rw [List.drop_zero]
    refine ih (s + 1) _ (by omega) (by rw [List.length_append, hl]; rfl) ?_
    rw [List.range'_succ, List.map_cons] at h
    rw [List.append_assoc]
    have e : stepT tx i s * mn_ + leads mx_ (j : Int) ((ou.getD i []).getD s []) = stepP tx ou mx_ mn_.toNat i j s := by
      unfold stepP outS
      rw [Int.toNat_natCast, Int.toNat_natCast, show ((mn_.toNat : Nat) : Int) = mn_ by omega]
    rw [e]
    exact h
theorem takes_l1 (gt : GoodT tn tk tl tx ou ts) (gm : GoodM mn_ mk mx_ ms mf) (hk : tl = mk) (f0 : 0 ≤ mf) (f1 : mf < 4294967296) (hn : tn * mn_ ≤ 7) (N' K' S' : Int) (i : Nat) (hi : (i : Int) < tn) {r : Int × Int × List (List Int) × Int × Int × Int} (h : Ev (fun q => turner_Takes.l0 q tn (wrap64 ((i : Int) + 1)) tn tk tl tx ou ts mn_ mk mx_ ms mf N' K' (rowsAt tx ou mx_ mn_.toNat tk.toNat ((i + 1) * mn_.toNat)) S' (finAt mf mn_.toNat ((i + 1) * mn_.toNat) : Int)) r) : ∀ (d j : Nat), (j : Int) + d = mn_ →
    Ev (fun q => turner_Takes.l1 q (i : Int) tn (i : Int) mn_ (j : Int) tn tk tl tx ou ts mn_ mk mx_ ms mf N' K' (rowsAt tx ou mx_ mn_.toNat tk.toNat (i * mn_.toNat + j)) S' (finAt mf mn_.toNat (i * mn_.toNat + j) : Int)) r := by
  have q1 := gt.n1; have q2 := gt.n7; have q3 := gt.k1; have q4 := gt.k3; have q5 := gt.ln; have q6 := gm.n1; have q7 := gm.n7; have q8 := gm.len
  obtain ⟨BN, hBN⟩ := Int.eq_ofNat_of_zero_le (show 0 ≤ mn_ by omega)
  have hBt : mn_.toNat = BN := by omega
  intro d
  induction d with
  | zero =>
    intro j hj
    have hjB : j = mn_.toNat := by omega
    refine Ev.step (fun q => by rw [turner_Takes.l1]) (Ev.neg (by omega) ?_)
    rw [Nat.succ_mul] at h
    rw [hjB]
    exact h
  | succ d ih =>
    intro j hj
    have hjl : j < mn_.toNat := by omega
    have hc : i * mn_.toNat + j < 7 := by
      have : (i * mn_.toNat + mn_.toNat : Nat) ≤ 7 := by
        have h1 : ((i : Int) + 1) * mn_ ≤ tn * mn_ := Int.mul_le_mul_of_nonneg_right (by omega) (by omega)
        have h2 : (((i + 1) * mn_.toNat : Nat) : Int) ≤ 7 := by
          rw [Int.natCast_mul, show ((mn_.toNat : Nat) : Int) = mn_ by omega]
          push_cast
          omega
        rw [Nat.succ_mul] at h2
        exact_mod_cast h2
      omega
    have hrl := (rows_inv tx ou mx_ mn_.toNat tk.toNat (i * mn_.toNat + j)).1
    have hF := (fin_inv mf mn_.toNat (i * mn_.toNat + j)).1
    have e1 : (i * mn_.toNat + j) / mn_.toNat = i := by rw [Nat.mul_comm, Nat.mul_add_div (by omega), Nat.div_eq_of_lt hjl, Nat.add_zero]
    have e2 : (i * mn_.toNat + j) % mn_.toNat = j := by rw [Nat.mul_comm, Nat.mul_add_mod, Nat.mod_eq_of_lt hjl]
    have hnext := ih (j + 1) (by omega)
    rw [show i * mn_.toNat + (j + 1) = i * mn_.toNat + j + 1 from rfl, rowsAt, finAt, e1, e2] at hnext
    generalize rowsAt tx ou mx_ mn_.toNat tk.toNat (i * mn_.toNat + j) = rows at *
    generalize finAt mf mn_.toNat (i * mn_.toNat + j) = F at *
    have hp : 2 ^ (i * mn_.toNat + j) ≤ 2 ^ 7 := Nat.pow_le_pow_right (by omega) (by omega)
    have hcast : (i : Int) * mn_ + (j : Int) = ((i * mn_.toNat + j : Nat) : Int) := by
      rw [Int.natCast_add, Int.natCast_mul, show ((mn_.toNat : Nat) : Int) = mn_ by omega]
    have hi0 : 0 ≤ (i : Int) * mn_ := Int.mul_nonneg (by omega) (by omega)
    refine Ev.step (fun q => by rw [turner_Takes.l1]) (Ev.pos (by omega) ?_)
    refine takes_l2 gt gm hk hn i hi j (by omega) _ _ _ _ _ _ _ _ _ tk.toNat 0 [] (by omega) rfl ?_
    rw [List.nil_append, show (List.range' 0 tk.toNat).map (fun t : Nat => stepP tx ou mx_ mn_.toNat i j t) = rowP tx ou mx_ mn_.toNat tk.toNat i j by rw [rowP, List.range_eq_range']]
    refine Ev.step (fun q => by rw [turner_Takes.l2]) (Ev.neg (by omega) ?_)
    rw [w64 (n := (i : Int) * mn_) (by omega) (by omega), w64 (n := (i : Int) * mn_ + (j : Int)) (by omega) (by omega), hcast]
    refine Ev.pos (by omega) (Ev.pos (by omega) (Ev.pos (by omega) ?_))
    rw [shr_bit f0 f1 (by omega), show wrap64 ((j : Int) + 1) = ((j + 1 : Nat) : Int) by rw [w64 (by omega) (by omega)]; omega]
    by_cases bb : bit mf (j : Nat) = true
    · rw [if_pos bb] at hnext ⊢
      rw [shl_one (by omega) (by omega), Int.toNat_natCast]
      have e : ((2 : Int) ^ (i * mn_.toNat + j)) = ((2 ^ (i * mn_.toNat + j) : Nat) : Int) := by simp
      rw [e, u32_or_nat _ _ (by omega) (by omega)]
      exact hnext
    · rw [if_neg bb] at hnext ⊢
      rw [or_none (by omega)]
      exact hnext
theorem takes_l0 (gt : GoodT tn tk tl tx ou ts) (gm : GoodM mn_ mk mx_ ms mf) (hk : tl = mk) (f0 : 0 ≤ mf) (f1 : mf < 4294967296) (hn : tn * mn_ ≤ 7) (N' K' S' : Int) : ∀ (d i : Nat), (i : Int) + d = tn →
    Ev (fun q => turner_Takes.l0 q tn (i : Int) tn tk tl tx ou ts mn_ mk mx_ ms mf N' K' (rowsAt tx ou mx_ mn_.toNat tk.toNat (i * mn_.toNat)) S' (finAt mf mn_.toNat (i * mn_.toNat) : Int)) (N', K', rowsAt tx ou mx_ mn_.toNat tk.toNat (tn.toNat * mn_.toNat), S', (finAt mf mn_.toNat (tn.toNat * mn_.toNat) : Int), 0) := by
  have q1 := gt.n1; have q2 := gt.n7; have q6 := gm.n1
  intro d
  induction d with
  | zero =>
    intro i hi
    rw [show tn.toNat = i by omega]
    exact Ev.step (fun q => by rw [turner_Takes.l0]) (Ev.neg (by omega) (Ev.now _))
  | succ d ih =>
    intro i hi
    have h2 := ih (i + 1) (by omega)
    rw [show ((i + 1 : Nat) : Int) = wrap64 ((i : Int) + 1) by rw [w64 (by omega) (by omega)]; rfl] at h2
    have h3 := takes_l1 gt gm hk f0 f1 hn N' K' S' i (by omega) h2 mn_.toNat 0 (by omega)
    refine Ev.step (fun q => by rw [turner_Takes.l0]) ?_
    refine Ev.pos (show (i : Int) < tn by omega) ?_
    exact h3
theorem takes_pairs (gt : GoodT tn tk tl tx ou ts) (gm : GoodM mn_ mk mx_ ms mf) (hk : tl = mk) (f0 : 0 ≤ mf) (f1 : mf < 4294967296) (hn : tn * mn_ ≤ 7) :
    ∃ (rows : List (List Int)) (F : Int), Ev (fun q => turner_Takes.f q tn tk tl tx ou ts mn_ mk mx_ ms mf) (tn * mn_, tk, rows, ts * mn_ + ms, F, 0) ∧ 0 ≤ F ∧ F < 4294967296 ∧ GoodM (tn * mn_) tk rows (ts * mn_ + ms) F ∧
      (∀ i j s : Int, 0 ≤ i → i < tn → 0 ≤ j → j < mn_ → 0 ≤ s → s < tk → stepM rows (i * mn_ + j) s = stepT tx i s * mn_ + leads mx_ j (outS ou i s)) ∧ (∀ i j : Int, 0 ≤ i → i < tn → 0 ≤ j → j < mn_ → bit F (i * mn_ + j) = bit mf j) := by
  have q1 := gt.n1; have q2 := gt.n7; have q3 := gt.k1; have q4 := gt.k3; have q5 := gt.ln; have q5b := gt.lo; have q6 := gm.n1; have q7 := gm.n7; have q8 := gm.len; have q9 := gt.s0; have q10 := gt.s1; have q11 := gm.s0; have q12 := gm.s1
  obtain ⟨e, he, hie⟩ := tcheck_spec (n := tn) (k := tk) (l := tl) (nx := tx) (ou := ou) (s := ts)
  obtain ⟨e2, he2, hie2⟩ := check_spec (n := mn_) (k := mk) (nx := mx_) (s := ms) f0 f1
  have hin : ∀ i j : Int, 0 ≤ i → i < tn → 0 ≤ j → j < mn_ → 0 ≤ i * mn_ ∧ i * mn_ + j < tn * mn_ := fun i j i0 i1 j0 j1 => by
    have h1 : (i + 1) * mn_ ≤ tn * mn_ := Int.mul_le_mul_of_nonneg_right (by omega) (by omega)
    rw [Int.add_mul] at h1
    exact ⟨Int.mul_nonneg i0 (by omega), by omega⟩
  have hs := hin ts ms q9 q10 q11 q12
  have hl := takes_l0 gt gm hk f0 f1 hn (tn * mn_) tk (ts * mn_ + ms) tn.toNat 0 (by omega)
  obtain ⟨i1, i2⟩ := rows_inv tx ou mx_ mn_.toNat tk.toNat (tn.toNat * mn_.toNat)
  obtain ⟨i3, i4⟩ := fin_inv mf mn_.toNat (tn.toNat * mn_.toNat)
  rw [Nat.zero_mul] at hl
  refine ⟨rowsAt tx ou mx_ mn_.toNat tk.toNat (tn.toNat * mn_.toNat), (finAt mf mn_.toNat (tn.toNat * mn_.toNat) : Int), Ev.congr (fun q => by rw [turner_Takes.f]) ?_, ?_⟩
  · refine Ev.bind he ?_
    refine Ev.pos (hie.2 gt) ?_
    refine Ev.bind he2 ?_
    refine Ev.pos (hie2.2 gm) ?_
    refine Ev.pos hk ?_
    rw [w64 (n := tn * mn_) (by omega) (by omega), w64 (n := ts * mn_) (by omega) (by omega), w64 (n := ts * mn_ + ms) (by omega) (by omega)]
    refine Ev.neg (by omega) ?_
    exact hl
  obtain ⟨AN, rfl⟩ := Int.eq_ofNat_of_zero_le (show 0 ≤ tn by omega)
  obtain ⟨BN, rfl⟩ := Int.eq_ofNat_of_zero_le (show 0 ≤ mn_ by omega)
  obtain ⟨KN, rfl⟩ := Int.eq_ofNat_of_zero_le (show 0 ≤ tk by omega)
  simp only [Int.toNat_natCast] at i1 i2 i3 i4 ⊢
  have hn' : AN * BN ≤ 7 := by exact_mod_cast hn
  generalize rowsAt tx ou mx_ BN KN (AN * BN) = rows at *
  generalize finAt mf BN (AN * BN) = F at *
  have hp : 2 ^ (AN * BN) ≤ 2 ^ 7 := Nat.pow_le_pow_right (by omega) hn'
  have hrow : ∀ p, p < AN * BN → p / BN < AN ∧ p % BN < BN := fun p hp => ⟨Nat.div_lt_of_lt_mul (by rw [Nat.mul_comm]; exact hp), Nat.mod_lt _ (by omega)⟩
  have key : ∀ i j : Int, 0 ≤ i → i < (AN : Int) → 0 ≤ j → j < (BN : Int) → ∃ I J : Nat, i = I ∧ j = J ∧ (i * (BN : Int) + j).toNat = I * BN + J ∧ I * BN + J < AN * BN ∧ (I * BN + J) / BN = I ∧ (I * BN + J) % BN = J := fun i j i0 ih j0 jh => by
    obtain ⟨I, rfl⟩ := Int.eq_ofNat_of_zero_le i0
    obtain ⟨J, rfl⟩ := Int.eq_ofNat_of_zero_le j0
    have hJ : J < BN := by omega
    refine ⟨I, J, rfl, rfl, ?_, ?_, ?_, ?_⟩
    · rw [← Int.natCast_mul, ← Int.natCast_add, Int.toNat_natCast]
    · have := (hin I J i0 ih j0 jh).2
      rw [← Int.natCast_mul, ← Int.natCast_add, ← Int.natCast_mul] at this
      exact_mod_cast this
    · rw [Nat.mul_comm, Nat.mul_add_div (by omega), Nat.div_eq_of_lt hJ, Nat.add_zero]
    · rw [Nat.mul_comm, Nat.mul_add_mod, Nat.mod_eq_of_lt hJ]
  have hstep : ∀ i j s : Int, 0 ≤ i → i < (AN : Int) → 0 ≤ j → j < (BN : Int) → 0 ≤ s → s < (KN : Int) → stepM rows (i * BN + j) s = stepT tx i s * BN + leads mx_ j (outS ou i s) := fun i j s i0 ih j0 jh s0 sh => by
    obtain ⟨I, J, rfl, rfl, e1, e2, e3, e4⟩ := key i j i0 ih j0 jh
    obtain ⟨s', rfl⟩ := Int.eq_ofNat_of_zero_le s0
    rw [stepM, e1, i2 _ e2, e3, e4, rowP, Int.toNat_natCast, List.getD_eq_getElem?_getD, List.getElem?_map, List.getElem?_range (by omega)]
    rfl
  have hmem : ∀ l ∈ rows, ∃ p, p < AN * BN ∧ l = rowP tx ou mx_ BN KN (p / BN) (p % BN) := fun l hl => by
    obtain ⟨p, hp, rfl⟩ := List.getElem_of_mem hl
    refine ⟨p, by omega, ?_⟩
    rw [← i2 p (by omega), List.getD_eq_getElem?_getD, List.getElem?_eq_getElem hp, Option.getD_some]
  refine ⟨Int.natCast_nonneg _, by omega, ⟨?_, hn, q3, q4, ?_, ?_, ?_, ?_, hs.2, ?_⟩, hstep, ?_⟩
  · rw [← Int.natCast_mul]
    have : 1 * 1 ≤ AN * BN := Nat.mul_le_mul (by omega) (by omega)
    omega
  · rw [i1, Int.natCast_mul]
  · intro l hl
    obtain ⟨p, _, rfl⟩ := hmem l hl
    simp [rowP]
  · intro l hl x hx
    obtain ⟨p, hp, rfl⟩ := hmem l hl
    obtain ⟨h1, h2⟩ := hrow p hp
    rw [rowP, List.mem_map] at hx
    obtain ⟨s, hs', rfl⟩ := hx
    rw [List.mem_range] at hs'
    have a := stepT_in gt (a := (p / BN : Nat)) (s := s) ⟨Int.natCast_nonneg _, Int.ofNat_lt.2 h1⟩ ⟨Int.natCast_nonneg _, Int.ofNat_lt.2 hs'⟩
    have hr2 := (gt.row (p / BN) (by omega)).2
    have m1 : ou.getD (p / BN) [] ∈ ou := getD_mem (by omega)
    have m2 : (ou.getD (p / BN) []).getD s [] ∈ ou.getD (p / BN) [] := getD_mem (by omega)
    have b := leads_in gm (w := outS ou (p / BN : Nat) s) (a := (p % BN : Nat)) (fun x hx => by
      unfold outS at hx
      rw [Int.toNat_natCast, Int.toNat_natCast] at hx
      rw [← hk]
      exact gt.eo _ m1 _ m2 x hx) ⟨Int.natCast_nonneg _, Int.ofNat_lt.2 h2⟩
    replace a := a.1
    obtain ⟨u0, u1⟩ := hin _ _ a.1 a.2 b.1 b.2
    exact ⟨Int.add_nonneg u0 b.1, u1⟩
  · have := Int.mul_nonneg q9 (show (0 : Int) ≤ BN by omega); omega
  · rw [← Int.natCast_mul, Int.toNat_natCast]
    have e : ((2 : Int) ^ (AN * BN)) = ((2 ^ (AN * BN) : Nat) : Int) := by simp
    rw [e]
    exact Int.ofNat_lt.2 i3
  · intro i j i0 ih j0 jh
    obtain ⟨I, J, rfl, rfl, e1, e2, e3, e4⟩ := key i j i0 ih j0 jh
    rw [bit, e1, Int.toNat_natCast, i4, e4, decide_eq_true e2, Bool.true_and]
end
end Go.Proofs.Ytiiankjmeodjdaa.PVM

namespace Go.Proofs.Ytiiankjmeodjdaa.PVM
set_option linter.unusedVariables false
set_option linter.unusedSimpArgs false
open Go.RowKit Go.Proofs.Ytiiankjmeodjdaa.GV Go.Proofs.YtiiankjmeodjdaaW.PrintWords Go.Proofs.YtiiankjmeodjdaaW.PrintLast Go.Proofs.YtiiankjmeodjdaaW.PrintMore

def offB (m : Int) (x : Int) : Bool := decide (x < 0) || decide (x ≥ m)
theorem offB_iff {m x : Int} : offB m x = false ↔ 0 ≤ x ∧ x < m := by
  unfold offB
  rw [Bool.or_eq_false_iff, decide_eq_false_iff_not, decide_eq_false_iff_not]
  omega
def rowOff (n l : Int) (nx : List (List Int)) (ou : List (List (List Int))) (i s : Nat) : Bool := offB n ((nx.getD i []).getD s 0) || ((ou.getD i []).getD s []).any (offB l)
theorem or_true' {a b c : Bool} (h : a = true) : ((a || b) || c) = true := by rw [h]; rfl
theorem rt_l5 {n k l st : Int} {nx : List (List Int)} {ou : List (List (List Int))} (x8 x9 : Int) (xs : List Int) (hx : xs.length ≤ 1000) {r : Int} : ∀ (d i : Nat) (b : Bool), i + d = xs.length → Ev (fun q => coppicerref_TurnerCheck.l4 q (b || (xs.drop i).any (offB l)) x8 (wrap64 (x9 + 1)) n k l nx ou st) r → Ev (fun q => coppicerref_TurnerCheck.l5 q b x8 x9 xs (xs.length : Int) (i : Int) n k l nx ou st) r := by
  intro d
  induction d with
  | zero =>
    intro i b hi hr
    rw [List.drop_eq_nil_of_le (by omega), List.any_nil, Bool.or_false] at hr
    exact Ev.step (fun q => by rw [coppicerref_TurnerCheck.l5]) (Ev.neg (by omega) hr)
  | succ d ih =>
    intro i b hi hr
    have hlt : i < xs.length := by omega
    rw [drop_cons hlt 0, List.any_cons, ← Bool.or_assoc] at hr
    have h2 := ih (i + 1) _ (by omega) hr
    refine Ev.step (fun q => by rw [coppicerref_TurnerCheck.l5]) (Ev.pos (by omega) (Ev.pos (by omega) (Ev.pos (by omega) ?_)))
    rw [rd_nat, w64 (n := (i : Int) + 1) (by omega) (by omega)]
    by_cases c : b = true
    · refine Ev.pos c ?_
      rw [c, Bool.true_or] at h2
      exact h2
    · refine Ev.neg c ?_
      rw [Bool.eq_false_iff.2 c, Bool.false_or] at h2
      unfold offB at h2
      by_cases c1 : xs.getD i 0 < 0
      · refine Ev.pos c1 ?_
        rw [decide_eq_true c1, Bool.true_or] at h2
        exact h2
      · refine Ev.neg c1 ?_
        rw [decide_eq_false c1, Bool.false_or] at h2
        exact h2
theorem rt_l4 {n k l st : Int} {nx : List (List Int)} {ou : List (List (List Int))} (k3 : k ≤ 3) (i : Nat) (hin : i < nx.length) (hio : i < ou.length) (hrn : ((nx.getD i []).length : Int) = k) (hro : ((ou.getD i []).length : Int) = k) (hsm : ∀ w ∈ ou.getD i [], w.length ≤ 4) {r : Int} : ∀ (d s : Nat) (b : Bool), (s : Int) + d = k → Ev (fun q => coppicerref_TurnerCheck.l3 q (b || (List.range' s d).any (rowOff n l nx ou i)) (wrap64 ((i : Int) + 1)) n k l nx ou st) r → Ev (fun q => coppicerref_TurnerCheck.l4 q b (i : Int) (s : Int) n k l nx ou st) r := by
  intro d
  induction d with
  | zero =>
    intro s b hs hr
    rw [List.range'_zero, List.any_nil, Bool.or_false] at hr
    exact Ev.step (fun q => by rw [coppicerref_TurnerCheck.l4]) (Ev.neg (by omega) hr)
  | succ d ih =>
    intro s b hs hr
    rw [List.range'_succ, List.any_cons, ← Bool.or_assoc] at hr
    have h2 := ih (s + 1) _ (by omega) hr
    have hm : (ou.getD i []).getD s [] ∈ ou.getD i [] := getD_mem (by omega)
    have hl := hsm _ hm
    have j8 : ∀ b' : Bool, (b' || ((ou.getD i []).getD s []).any (offB l)) = (b || rowOff n l nx ou i s) → Ev (fun q => coppicerref_TurnerCheck.j8 q b' (i : Int) (s : Int) n k l nx ou st) r := by
      intro b' hb
      refine Ev.step (fun q => by rw [coppicerref_TurnerCheck.j8]) ?_
      refine Ev.pos (by omega) (Ev.pos (by omega) (Ev.pos (by omega) ?_))
      rw [rdB_nat, rdA_nat]
      refine Ev.pos (by omega) ?_
      refine rt_l5 (i : Int) (s : Int) _ (by omega) ((ou.getD i []).getD s []).length 0 b' (by omega) ?_
      rw [List.drop_zero, hb, w64 (n := (s : Int) + 1) (by omega) (by omega)]
      exact h2
    refine Ev.step (fun q => by rw [coppicerref_TurnerCheck.l4]) (Ev.pos (by omega) ?_)
    by_cases c : b = true
    · refine Ev.pos c (j8 true ?_)
      rw [c]
      rfl
    · have cf := Bool.eq_false_iff.2 c
      refine Ev.neg c (Ev.pos (by omega) (Ev.pos (by omega) (Ev.pos (by omega) ?_)))
      rw [rdA_nat, rd_nat]
      refine Ev.pos (by omega) ?_
      by_cases c1 : (nx.getD i []).getD s 0 < 0
      · refine Ev.pos c1 (j8 true ?_)
        rw [cf]
        unfold rowOff offB
        rw [decide_eq_true c1]
        rfl
      · refine Ev.neg c1 (j8 _ ?_)
        rw [cf, Bool.false_or]
        unfold rowOff
        congr 1
        unfold offB
        rw [decide_eq_false c1, Bool.false_or]
theorem rt_l3 {n k l st : Int} {nx : List (List Int)} {ou : List (List (List Int))} (n1 : 1 ≤ n) (n7 : n ≤ 7) (k1 : 1 ≤ k) (k3 : k ≤ 3) (hn : (nx.length : Int) = n) (ho : (ou.length : Int) = n) (hrow : ∀ i : Nat, i < n.toNat → ((nx.getD i []).length : Int) = k ∧ ((ou.getD i []).length : Int) = k) (hsm : ∀ r ∈ ou, ∀ w ∈ r, w.length ≤ 4) : ∀ (d i : Nat) (b : Bool), i + d = n.toNat → Ev (fun q => coppicerref_TurnerCheck.l3 q b (i : Int) n k l nx ou st) (if (b || (List.range' i d).any (fun j => (List.range' 0 k.toNat).any (rowOff n l nx ou j))) = true then 2 else 0) := by
  intro d
  induction d with
  | zero =>
    intro i b hi
    rw [List.range'_zero, List.any_nil, Bool.or_false]
    refine Ev.step (fun q => by rw [coppicerref_TurnerCheck.l3]) (Ev.neg (by omega) ?_)
    by_cases c : b = true
    · exact Ev.eq (Ev.pos c (Ev.now 2)) (if_pos c).symm
    · exact Ev.eq (Ev.neg c (Ev.now 0)) (if_neg c).symm
  | succ d ih =>
    intro i b hi
    have h := hrow i (by omega)
    rw [List.range'_succ, List.any_cons, ← Bool.or_assoc]
    refine Ev.step (fun q => by rw [coppicerref_TurnerCheck.l3]) (Ev.pos (by omega) ?_)
    refine rt_l4 k3 i (by omega) (by omega) h.1 h.2 (hsm _ (getD_mem (by omega))) k.toNat 0 b (by omega) ?_
    rw [w64 (n := (i : Int) + 1) (by omega) (by omega)]
    exact ih (i + 1) _ (by omega)
theorem rt_l2 {n k l st : Int} {nx : List (List Int)} {ou : List (List (List Int))} (x4 : Int) (xs : List (List Int)) (hx : xs.length ≤ 1000) : ∀ (d i : Nat), i + d = xs.length → (∃ w ∈ xs.drop i, ¬ w.length ≤ 4) ∧ Ev (fun q => coppicerref_TurnerCheck.l2 q x4 xs (xs.length : Int) (i : Int) n k l nx ou st) 1 ∨ (∀ w ∈ xs.drop i, w.length ≤ 4) ∧ ∀ r, Ev (fun q => coppicerref_TurnerCheck.l1 q (wrap64 (x4 + 1)) n k l nx ou st) r → Ev (fun q => coppicerref_TurnerCheck.l2 q x4 xs (xs.length : Int) (i : Int) n k l nx ou st) r := by
  intro d
  induction d with
  | zero =>
    intro i hi
    rw [List.drop_eq_nil_of_le (by omega)]
    exact .inr ⟨fun w hw => absurd hw (by simp), fun r h => Ev.step (fun q => by rw [coppicerref_TurnerCheck.l2]) (Ev.neg (by omega) h)⟩
  | succ d ih =>
    intro i hi
    have hlt : i < xs.length := by omega
    rw [drop_cons hlt []]
    have pre : ∀ {r : Int}, Ev (fun q => if ((xs.getD i []).length : Int) > 4 then some 1 else coppicerref_TurnerCheck.l2 q x4 xs (xs.length : Int) ((i + 1 : Nat) : Int) n k l nx ou st) r → Ev (fun q => coppicerref_TurnerCheck.l2 q x4 xs (xs.length : Int) (i : Int) n k l nx ou st) r := by
      intro r h
      refine Ev.step (fun q => by rw [coppicerref_TurnerCheck.l2]) (Ev.pos (by omega) (Ev.pos (by omega) (Ev.pos (by omega) ?_)))
      rw [rdA_nat, w64 (n := (i : Int) + 1) (by omega) (by omega)]
      exact h
    by_cases c : ((xs.getD i []).length : Int) > 4
    · exact .inl ⟨⟨_, List.mem_cons_self, by omega⟩, pre (Ev.pos c (Ev.now _))⟩
    · rcases ih (i + 1) (by omega) with ⟨⟨w, hw, h1⟩, h2⟩ | ⟨h1, h2⟩
      · exact .inl ⟨⟨w, List.mem_cons_of_mem _ hw, h1⟩, pre (Ev.neg c h2)⟩
      · refine .inr ⟨fun w hw => ?_, fun r h => pre (Ev.neg c (h2 r h))⟩
        rcases List.mem_cons.1 hw with rfl | hw
        · omega
        · exact h1 w hw
theorem rt_l1 {n k l st : Int} {nx : List (List Int)} {ou : List (List (List Int))} (n1 : 1 ≤ n) (n7 : n ≤ 7) (k1 : 1 ≤ k) (k3 : k ≤ 3) (l1 : 1 ≤ l) (l3 : l ≤ 3) (hn : (nx.length : Int) = n) (ho : (ou.length : Int) = n) (hrow : ∀ i : Nat, i < n.toNat → ((nx.getD i []).length : Int) = k ∧ ((ou.getD i []).length : Int) = k) : ∀ (d i : Nat), i + d = n.toNat → (∀ j : Nat, j < i → ∀ w ∈ ou.getD j [], w.length ≤ 4) → ∃ e, Ev (fun q => coppicerref_TurnerCheck.l1 q (i : Int) n k l nx ou st) e ∧ (e = 0 ↔ GoodT n k l nx ou st) := by
  intro d
  induction d with
  | zero =>
    intro i hi hsm
    have hsm2 : ∀ r ∈ ou, ∀ w ∈ r, w.length ≤ 4 := by
      intro r hr
      obtain ⟨j, hj, rfl⟩ := List.getElem_of_mem hr
      have := hsm j (by omega)
      rwa [List.getD_eq_getElem?_getD, List.getElem?_eq_getElem hj, Option.getD_some] at this
    have h5 : ∀ b : Bool, Ev (fun q => coppicerref_TurnerCheck.j5 q b n k l nx ou st) (if (b || (List.range' 0 n.toNat).any (fun j => (List.range' 0 k.toNat).any (rowOff n l nx ou j))) = true then 2 else 0) := fun b => by
      refine Ev.step (fun q => by rw [coppicerref_TurnerCheck.j5]) ?_
      exact rt_l3 n1 n7 k1 k3 hn ho hrow hsm2 n.toNat 0 b (by omega)
    have hE : Ev (fun q => coppicerref_TurnerCheck.l1 q (i : Int) n k l nx ou st) (if (offB n st || (List.range' 0 n.toNat).any (fun j => (List.range' 0 k.toNat).any (rowOff n l nx ou j))) = true then 2 else 0) := by
      refine Ev.step (fun q => by rw [coppicerref_TurnerCheck.l1]) (Ev.neg (by omega) ?_)
      unfold offB
      by_cases c : st < 0
      · rw [decide_eq_true c, Bool.true_or]
        exact Ev.pos c (h5 true)
      · rw [decide_eq_false c, Bool.false_or]
        exact Ev.neg c (h5 _)
    refine ⟨_, hE, ?_⟩
    by_cases c : (offB n st || (List.range' 0 n.toNat).any (fun j => (List.range' 0 k.toNat).any (rowOff n l nx ou j))) = true
    · rw [if_pos c]
      refine ⟨fun h => absurd h (by decide), fun g => ?_⟩
      rw [Bool.or_eq_true] at c
      rcases c with c | c
      · rw [offB_iff.2 ⟨g.s0, g.s1⟩] at c
        exact absurd c (by decide)
      · rw [List.any_eq_true] at c
        obtain ⟨j, hj, c⟩ := c
        rw [List.any_eq_true] at c
        obtain ⟨s, hs, c⟩ := c
        rw [List.mem_range'_1] at hj hs
        have hr := hrow j (by omega)
        have m1 : nx.getD j [] ∈ nx := getD_mem (by omega)
        have m2 : ou.getD j [] ∈ ou := getD_mem (by omega)
        have m3 : (nx.getD j []).getD s 0 ∈ nx.getD j [] := getD_mem (by omega)
        have m4 : (ou.getD j []).getD s [] ∈ ou.getD j [] := getD_mem (by omega)
        unfold rowOff at c
        rw [offB_iff.2 (g.en _ m1 _ m3), Bool.false_or, List.any_eq_true] at c
        obtain ⟨x, hx, c⟩ := c
        rw [offB_iff.2 (g.eo _ m2 _ m4 x hx)] at c
        exact absurd c (by decide)
    · rw [if_neg c]
      refine ⟨fun _ => ?_, fun _ => rfl⟩
      rw [Bool.not_eq_true, Bool.or_eq_false_iff] at c
      obtain ⟨c1, c2⟩ := c
      rw [List.any_eq_false] at c2
      have key : ∀ j s : Nat, j < n.toNat → s < k.toNat → rowOff n l nx ou j s = false := by
        intro j s hj hs
        have := c2 j (List.mem_range'_1.2 ⟨Nat.zero_le _, by omega⟩)
        rw [Bool.not_eq_true, List.any_eq_false] at this
        exact Bool.eq_false_iff.2 (this s (List.mem_range'_1.2 ⟨Nat.zero_le _, by omega⟩))
      have c3 := offB_iff.1 c1
      refine ⟨n1, n7, k1, k3, l1, l3, hn, ho, hrow, hsm2, fun r hr x hx => ?_, c3.1, c3.2, fun r hr w hw x hx => ?_⟩
      · obtain ⟨j, hj, rfl⟩ := List.getElem_of_mem hr
        obtain ⟨s, hs, rfl⟩ := List.getElem_of_mem hx
        have hr2 := (hrow j (by omega)).1
        have e1 : nx.getD j [] = nx[j] := by rw [List.getD_eq_getElem?_getD, List.getElem?_eq_getElem hj, Option.getD_some]
        rw [e1] at hr2
        have h2 := key j s (by omega) (by omega)
        unfold rowOff at h2
        rw [Bool.or_eq_false_iff, e1] at h2
        have e2 : nx[j].getD s 0 = nx[j][s] := by rw [List.getD_eq_getElem?_getD, List.getElem?_eq_getElem hs, Option.getD_some]
        have h3 := h2.1
        rw [e2] at h3
        exact offB_iff.1 h3
      · obtain ⟨j, hj, rfl⟩ := List.getElem_of_mem hr
        obtain ⟨s, hs, rfl⟩ := List.getElem_of_mem hw
        have hr2 := (hrow j (by omega)).2
        have e1 : ou.getD j [] = ou[j] := by rw [List.getD_eq_getElem?_getD, List.getElem?_eq_getElem hj, Option.getD_some]
        rw [e1] at hr2
        have h2 := key j s (by omega) (by omega)
        unfold rowOff at h2
        rw [Bool.or_eq_false_iff, e1] at h2
        have e2 : ou[j].getD s [] = ou[j][s] := by rw [List.getD_eq_getElem?_getD, List.getElem?_eq_getElem hs, Option.getD_some]
        have h3 := h2.2
        rw [e2, List.any_eq_false] at h3
        exact offB_iff.1 (Bool.eq_false_iff.2 (h3 x hx))
  | succ d ih =>
    intro i hi hsm
    have hr := hrow i (by omega)
    have hm : ou.getD i [] ∈ ou := getD_mem (by omega)
    rcases rt_l2 (n := n) (k := k) (l := l) (st := st) (nx := nx) (ou := ou) (i : Int) (ou.getD i []) (by omega) (ou.getD i []).length 0 (by omega) with ⟨⟨w, hw, h1⟩, h2⟩ | ⟨h1, h2⟩
    · rw [List.drop_zero] at hw
      refine ⟨1, Ev.step (fun q => by rw [coppicerref_TurnerCheck.l1]) (Ev.pos (by omega) (Ev.pos (by omega) (Ev.pos (by omega) ?_))), fun h => absurd h (by decide), fun g => absurd (g.small _ hm w hw) h1⟩
      rw [rdB_nat]
      exact h2
    · rw [List.drop_zero] at h1
      obtain ⟨e, he, hie⟩ := ih (i + 1) (by omega) (fun j hj => by
        by_cases c : j = i
        · rw [c]; exact h1
        · exact hsm j (by omega))
      refine ⟨e, Ev.step (fun q => by rw [coppicerref_TurnerCheck.l1]) (Ev.pos (by omega) (Ev.pos (by omega) (Ev.pos (by omega) ?_))), hie⟩
      rw [rdB_nat]
      refine h2 e ?_
      rw [w64 (n := (i : Int) + 1) (by omega) (by omega)]
      exact he
theorem rt_l0 {n k l st : Int} {nx : List (List Int)} {ou : List (List (List Int))} (n1 : 1 ≤ n) (n7 : n ≤ 7) (k1 : 1 ≤ k) (k3 : k ≤ 3) (l1 : 1 ≤ l) (l3 : l ≤ 3) (hn : (nx.length : Int) = n) (ho : (ou.length : Int) = n) : ∀ (d i : Nat), i + d = n.toNat → (∀ j : Nat, j < i → ((nx.getD j []).length : Int) = k ∧ ((ou.getD j []).length : Int) = k) → ∃ e, Ev (fun q => coppicerref_TurnerCheck.l0 q (i : Int) n k l nx ou st) e ∧ (e = 0 ↔ GoodT n k l nx ou st) := by
  intro d
  induction d with
  | zero =>
    intro i hi hg
    obtain ⟨e, he, hie⟩ := rt_l1 (l := l) (st := st) n1 n7 k1 k3 l1 l3 hn ho (fun j hj => hg j (by omega)) n.toNat 0 (by omega) (fun j hj => absurd hj (Nat.not_lt_zero _))
    refine ⟨e, ?_, hie⟩
    refine Ev.step (fun q => by rw [coppicerref_TurnerCheck.l0]) ?_
    refine Ev.neg (by omega) ?_
    exact he
  | succ d ih =>
    intro i hi hg
    have pre : ∀ {r : Int}, Ev (fun q => if ((nx.getD i []).length : Int) = k then (if ((ou.getD i []).length : Int) = k then coppicerref_TurnerCheck.l0 q ((i + 1 : Nat) : Int) n k l nx ou st else some 3) else some 3) r → Ev (fun q => coppicerref_TurnerCheck.l0 q (i : Int) n k l nx ou st) r := by
      intro r h
      refine Ev.step (fun q => by rw [coppicerref_TurnerCheck.l0]) ?_
      refine Ev.pos (by omega) (Ev.pos (by omega) (Ev.pos (by omega) ?_))
      rw [rdA_nat, rdB_nat, w64 (n := (i : Int) + 1) (by omega) (by omega)]
      by_cases c : ((nx.getD i []).length : Int) = k
      · refine Ev.pos c (Ev.pos (by omega) ?_)
        exact Ev.congr (fun _ => by rw [if_pos c]; rfl) h
      · refine Ev.neg c ?_
        exact Ev.congr (fun _ => by rw [if_neg c]) h
    by_cases c1 : ((nx.getD i []).length : Int) = k
    · by_cases c2 : ((ou.getD i []).length : Int) = k
      · obtain ⟨e, he, hie⟩ := ih (i + 1) (by omega) (fun j hj => by
          by_cases c : j = i
          · rw [c]; exact ⟨c1, c2⟩
          · exact hg j (by omega))
        exact ⟨e, pre (Ev.pos c1 (Ev.pos c2 he)), hie⟩
      · exact ⟨3, pre (Ev.pos c1 (Ev.neg c2 (Ev.now _))), fun h => absurd h (by decide), fun h => absurd (h.row i (by omega)).2 c2⟩
    · exact ⟨3, pre (Ev.neg c1 (Ev.now _)), fun h => absurd h (by decide), fun h => absurd (h.row i (by omega)).1 c1⟩
theorem rturner_spec {n k l s : Int} {nx : List (List Int)} {ou : List (List (List Int))} : ∃ e, Ev (fun q => coppicerref_TurnerCheck.f q n k l nx ou s) e ∧ (e = 0 ↔ GoodT n k l nx ou s) := by
  have one : Ev (fun q => coppicerref_TurnerCheck.j0 q true n k l nx ou s) 1 := Ev.step (fun q => by rw [coppicerref_TurnerCheck.j0]) (Ev.pos rfl (Ev.now _))
  have three : Ev (fun q => coppicerref_TurnerCheck.j1 q true n k l nx ou s) 3 := Ev.step (fun q => by rw [coppicerref_TurnerCheck.j1]) (Ev.pos rfl (Ev.now _))
  by_cases a1 : n < 1
  · exact ⟨1, Ev.congr (fun q => by rw [coppicerref_TurnerCheck.f]) (Ev.pos a1 one), fun h => absurd h (by decide), fun h => by have := h.n1; omega⟩
  by_cases a2 : n > 7
  · exact ⟨1, Ev.congr (fun q => by rw [coppicerref_TurnerCheck.f]) (Ev.neg a1 (Ev.pos a2 one)), fun h => absurd h (by decide), fun h => by have := h.n7; omega⟩
  by_cases a3 : k < 1
  · exact ⟨1, Ev.congr (fun q => by rw [coppicerref_TurnerCheck.f]) (Ev.neg a1 (Ev.neg a2 (Ev.pos a3 one))), fun h => absurd h (by decide), fun h => by have := h.k1; omega⟩
  by_cases a4 : k > 3
  · exact ⟨1, Ev.congr (fun q => by rw [coppicerref_TurnerCheck.f]) (Ev.neg a1 (Ev.neg a2 (Ev.neg a3 (Ev.pos a4 one)))), fun h => absurd h (by decide), fun h => by have := h.k3; omega⟩
  by_cases a5 : l < 1
  · exact ⟨1, Ev.congr (fun q => by rw [coppicerref_TurnerCheck.f]) (Ev.neg a1 (Ev.neg a2 (Ev.neg a3 (Ev.neg a4 (Ev.pos a5 one))))), fun h => absurd h (by decide), fun h => by have := h.l1; omega⟩
  by_cases a6 : l > 3
  · refine ⟨1, Ev.congr (fun q => by rw [coppicerref_TurnerCheck.f]) (Ev.neg a1 (Ev.neg a2 (Ev.neg a3 (Ev.neg a4 (Ev.neg a5 ?_))))), fun h => absurd h (by decide), fun h => by have := h.l3; omega⟩
    rw [decide_eq_true a6]
    exact one
  have pre : ∀ {t : Bool} {r : Int}, (nx.length : Int) = n ∧ t = ((ou.length : Int) != n) ∨ ¬ (nx.length : Int) = n ∧ t = true → Ev (fun q => coppicerref_TurnerCheck.j1 q t n k l nx ou s) r → Ev (fun q => coppicerref_TurnerCheck.f q n k l nx ou s) r := by
    intro t r ht h
    refine Ev.congr (fun q => by rw [coppicerref_TurnerCheck.f]) (Ev.neg a1 (Ev.neg a2 (Ev.neg a3 (Ev.neg a4 (Ev.neg a5 ?_)))))
    rw [decide_eq_false a6]
    refine Ev.step (fun q => by rw [coppicerref_TurnerCheck.j0]) (Ev.neg (by decide) ?_)
    rcases ht with ⟨h1, h2⟩ | ⟨h1, h2⟩
    · refine Ev.pos h1 ?_
      rw [← h2]
      exact h
    · refine Ev.neg h1 ?_
      rw [← h2]
      exact h
  by_cases a7 : (nx.length : Int) = n
  · by_cases a8 : (ou.length : Int) = n
    · obtain ⟨e, he, hie⟩ := rt_l0 (n := n) (k := k) (l := l) (st := s) (nx := nx) (ou := ou) (by omega) (by omega) (by omega) (by omega) (by omega) (by omega) a7 a8 n.toNat 0 (by omega) (fun j hj => absurd hj (Nat.not_lt_zero _))
      refine ⟨e, pre (t := false) (.inl ⟨a7, by simp [a8]⟩) ?_, hie⟩
      refine Ev.step (fun q => by rw [coppicerref_TurnerCheck.j1]) ?_
      refine Ev.neg (by decide) ?_
      exact he
    · exact ⟨3, pre (t := true) (.inl ⟨a7, by simp [a8]⟩) three, fun h => absurd h (by decide), fun h => absurd h.lo a8⟩
  · exact ⟨3, pre (t := true) (.inr ⟨a7, rfl⟩) three, fun h => absurd h (by decide), fun h => absurd h.ln a7⟩
end Go.Proofs.Ytiiankjmeodjdaa.PVM

namespace Go.Proofs.Ytiiankjmeodjdaa.PVM
set_option linter.unusedVariables false
set_option linter.unusedSimpArgs false
open Go.RowKit Go.Proofs.Ytiiankjmeodjdaa.GV Go.Proofs.YtiiankjmeodjdaaW.PrintWords Go.Proofs.YtiiankjmeodjdaaW.PrintLast Go.Proofs.YtiiankjmeodjdaaW.PrintMore

theorem wordcheck_loop (k : Int) (w : List Int) (hw : w.length ≤ 12) : ∀ (d i : Nat), i + d = w.length → Ev (fun q => coppicerref_WordCheck.l0 q k w (w.length : Int) (i : Int)) (if (w.drop i).all (okN k) = true then 0 else 2) := by
  intro d
  induction d with
  | zero =>
    intro i hi
    refine Ev.step (fun q => by rw [coppicerref_WordCheck.l0]) (Ev.neg (by omega) ?_)
    rw [List.drop_eq_nil_of_le (by omega)]
    exact Ev.now _
  | succ d ih =>
    intro i hi
    have hlt : i < w.length := by omega
    refine Ev.step (fun q => by rw [coppicerref_WordCheck.l0]) (Ev.pos (by omega) (Ev.pos (by omega) (Ev.pos (by omega) ?_)))
    rw [rd_nat, drop_cons hlt 0, List.all_cons]
    generalize w.getD i 0 = x
    by_cases h1 : x < 0
    · refine Ev.pos h1 ?_
      rw [show okN k x = false by simp [okN]; omega]
      exact Ev.now _
    · refine Ev.neg h1 ?_
      by_cases h2 : x ≥ k
      · refine Ev.pos h2 ?_
        rw [show okN k x = false by simp [okN]; omega]
        exact Ev.now _
      · refine Ev.neg h2 ?_
        rw [show okN k x = true by simp [okN]; omega, Bool.true_and, w64 (n := (i : Int) + 1) (by omega) (by omega)]
        exact ih (i + 1) (by omega)
theorem wordcheck_spec (k : Int) (w : List Int) : ∃ e, Ev (fun q => coppicerref_WordCheck.f q k w) e ∧ (e = 0 ↔ GoodW k w) := by
  unfold GoodW
  by_cases h : (w.length : Int) > 12
  · exact ⟨1, Ev.congr (fun q => by rw [coppicerref_WordCheck.f]) (Ev.pos h (Ev.now _)), fun h' => absurd h' (by decide), fun h' => by omega⟩
  · refine ⟨_, Ev.congr (f := fun q => if (w.length : Int) > 12 then some 1 else coppicerref_WordCheck.l0 q k w (w.length : Int) ((0 : Nat) : Int)) (fun q => by rw [coppicerref_WordCheck.f]; rfl) (Ev.neg h (wordcheck_loop k w (by omega) w.length 0 (by omega))), ?_⟩
    rw [List.drop_zero]
    by_cases h2 : w.all (okN k) = true
    · rw [if_pos h2]
      refine ⟨fun _ => ⟨by omega, fun s hs => okN_iff.1 (List.all_eq_true.1 h2 s hs)⟩, fun _ => rfl⟩
    · rw [if_neg h2]
      refine ⟨fun h' => absurd h' (by decide), fun h' => absurd (List.all_eq_true.2 fun s hs => okN_iff.2 (h'.2 s hs)) h2⟩

end Go.Proofs.Ytiiankjmeodjdaa.PVM

namespace Go.Proofs.Ytiiankjmeodjdaa.PVM
set_option linter.unusedVariables false
set_option linter.unusedSimpArgs false
open Go.RowKit Go.Proofs.Ytiiankjmeodjdaa.GV Go.Proofs.YtiiankjmeodjdaaW.PrintWords Go.Proofs.YtiiankjmeodjdaaW.PrintLast Go.Proofs.YtiiankjmeodjdaaW.PrintMore

theorem refcheck_l2 (n k : Int) (nx : List (List Int)) (s f : Int) (L : List (List Int)) (Ll j : Int) (v : List Int) (hv : v.length ≤ 1000) (r : Int) : ∀ (d i : Nat), i + d = v.length →
    ((v.drop i).all (okN n) = true → Ev (fun q => coppicerref_MachineCheck.l1 q L Ll (wrap64 (j + 1)) n k nx s f) r) → ((v.drop i).all (okN n) = false → r = 2) →
    Ev (fun q => coppicerref_MachineCheck.l2 q L Ll j v (v.length : Int) (i : Int) n k nx s f) r := by
  intro d
  induction d with
  | zero =>
    intro i hi hy hn
    refine Ev.step (fun q => by rw [coppicerref_MachineCheck.l2]) (Ev.neg (by omega) ?_)
    rw [List.drop_eq_nil_of_le (by omega)] at hy
    exact hy rfl
  | succ d ih =>
    intro i hi hy hn
    have hlt : i < v.length := by omega
    refine Ev.step (fun q => by rw [coppicerref_MachineCheck.l2]) (Ev.pos (by omega) (Ev.pos (by omega) (Ev.pos (by omega) ?_)))
    rw [rd_nat]
    rw [drop_cons hlt 0, List.all_cons] at hy hn
    generalize v.getD i 0 = x at *
    by_cases h1 : x < 0
    · rw [hn (by rw [show okN n x = false by simp [okN]; omega]; rfl)]
      exact Ev.pos h1 (Ev.now _)
    · refine Ev.neg h1 ?_
      by_cases h2 : x ≥ n
      · rw [hn (by rw [show okN n x = false by simp [okN]; omega]; rfl)]
        exact Ev.pos h2 (Ev.now _)
      · refine Ev.neg h2 ?_
        rw [show okN n x = true by simp [okN]; omega, Bool.true_and] at hy hn
        rw [w64 (n := (i : Int) + 1) (by omega) (by omega)]
        exact ih (i + 1) (by omega) hy hn
theorem refcheck_l1 (n k : Int) (nx : List (List Int)) (s f : Int) (hn0 : 1 ≤ n) (hn7 : n ≤ 7) (L : List (List Int)) (hL : L.length ≤ 1000) (hv : ∀ v ∈ L, v.length ≤ 1000) : ∀ (d j : Nat), j + d = L.length →
    Ev (fun q => coppicerref_MachineCheck.l1 q L (L.length : Int) (j : Int) n k nx s f) (if (L.drop j).all (fun v => v.all (okN n)) = true then (if okN n s = true then (if f < 2 ^ n.toNat then 0 else 4) else 2) else 2) := by
  intro d
  induction d with
  | zero =>
    intro j hj
    refine Ev.step (fun q => by rw [coppicerref_MachineCheck.l1]) (Ev.neg (by omega) ?_)
    rw [List.drop_eq_nil_of_le (by omega)]
    show Ev _ (if okN n s = true then (if f < 2 ^ n.toNat then 0 else 4) else 2)
    by_cases h1 : s < 0
    · rw [show okN n s = false by simp [okN]; omega]
      show Ev _ (2 : Int)
      exact Ev.pos h1 (Ev.step (fun q => by rw [coppicerref_MachineCheck.j4]) (Ev.pos rfl (Ev.now _)))
    · refine Ev.neg h1 ?_
      by_cases h2 : s ≥ n
      · rw [show okN n s = false by simp [okN]; omega]
        show Ev _ (2 : Int)
        exact Ev.step (fun q => by rw [coppicerref_MachineCheck.j4]) (Ev.pos (by simpa using h2) (Ev.now _))
      · rw [show okN n s = true by simp [okN]; omega]
        refine Ev.step (fun q => by rw [coppicerref_MachineCheck.j4]) (Ev.neg (by simpa using h2) ?_)
        rw [u64_small (by omega) (by omega)]
        refine Ev.pos (by omega) ?_
        rw [shl_one (by omega) (by omega)]
        by_cases h3 : f < 2 ^ n.toNat
        · rw [if_pos h3]; exact Ev.neg (by omega) (Ev.now _)
        · rw [if_neg h3]; exact Ev.pos (by omega) (Ev.now _)
  | succ d ih =>
    intro j hj
    have hlt : j < L.length := by omega
    refine Ev.step (fun q => by rw [coppicerref_MachineCheck.l1]) (Ev.pos (by omega) (Ev.pos (by omega) (Ev.pos (by omega) ?_)))
    rw [rdL_nat, drop_cons hlt [], List.all_cons]
    have hm : L.getD j [] ∈ L := getD_mem hlt
    have hv1 := hv _ hm
    generalize L.getD j [] = v at *
    refine refcheck_l2 n k nx s f L _ _ v hv1 _ v.length 0 (by omega) (fun h => ?_) (fun h => ?_)
    · rw [List.drop_zero] at h
      rw [h, Bool.true_and, w64 (n := (j : Int) + 1) (by omega) (by omega)]
      exact ih (j + 1) (by omega)
    · rw [List.drop_zero] at h
      rw [h]; rfl
theorem refcheck_l0 (n k : Int) (nx : List (List Int)) (s f : Int) (L : List (List Int)) (hL : L.length ≤ 1000) (r : Int) : ∀ (d j : Nat), j + d = L.length →
    ((L.drop j).all (fun v => decide ((v.length : Int) = k)) = true → Ev (fun q => coppicerref_MachineCheck.l1 q nx (nx.length : Int) 0 n k nx s f) r) → ((L.drop j).all (fun v => decide ((v.length : Int) = k)) = false → r = 3) →
    Ev (fun q => coppicerref_MachineCheck.l0 q L (L.length : Int) (j : Int) n k nx s f) r := by
  intro d
  induction d with
  | zero =>
    intro j hj hy hn
    refine Ev.step (fun q => by rw [coppicerref_MachineCheck.l0]) (Ev.neg (by omega) ?_)
    rw [List.drop_eq_nil_of_le (by omega)] at hy
    exact hy rfl
  | succ d ih =>
    intro j hj hy hn
    have hlt : j < L.length := by omega
    refine Ev.step (fun q => by rw [coppicerref_MachineCheck.l0]) (Ev.pos (by omega) (Ev.pos (by omega) (Ev.pos (by omega) ?_)))
    rw [rdL_nat]
    rw [drop_cons hlt [], List.all_cons] at hy hn
    generalize L.getD j [] = v at *
    by_cases h1 : (v.length : Int) = k
    · rw [decide_eq_true h1, Bool.true_and] at hy hn
      refine Ev.pos h1 ?_
      rw [w64 (n := (j : Int) + 1) (by omega) (by omega)]
      exact ih (j + 1) (by omega) hy hn
    · rw [hn (by rw [decide_eq_false h1]; rfl)]
      exact Ev.neg h1 (Ev.now _)
theorem refcheck_spec {n k : Int} {nx : List (List Int)} {s f : Int} (h0 : 0 ≤ f) (h1 : f < 4294967296) : ∃ e, Ev (fun q => coppicerref_MachineCheck.f q n k nx s f) e ∧ (e = 0 ↔ GoodM n k nx s f) := by
  by_cases a1 : n < 1
  · exact ⟨1, Ev.congr (fun q => by rw [coppicerref_MachineCheck.f]) (Ev.pos a1 (Ev.step (fun q => by rw [coppicerref_MachineCheck.j0]) (Ev.pos rfl (Ev.now _)))), fun h => absurd h (by decide), fun h => by have := h.n1; omega⟩
  by_cases a2 : n > 7
  · exact ⟨1, Ev.congr (fun q => by rw [coppicerref_MachineCheck.f]) (Ev.neg a1 (Ev.pos a2 (Ev.step (fun q => by rw [coppicerref_MachineCheck.j0]) (Ev.pos rfl (Ev.now _))))), fun h => absurd h (by decide), fun h => by have := h.n7; omega⟩
  by_cases a3 : k < 1
  · exact ⟨1, Ev.congr (fun q => by rw [coppicerref_MachineCheck.f]) (Ev.neg a1 (Ev.neg a2 (Ev.pos a3 (Ev.step (fun q => by rw [coppicerref_MachineCheck.j0]) (Ev.pos rfl (Ev.now _)))))), fun h => absurd h (by decide), fun h => by have := h.k1; omega⟩
  by_cases a4 : k > 3
  · exact ⟨1, Ev.congr (fun q => by rw [coppicerref_MachineCheck.f]) (Ev.neg a1 (Ev.neg a2 (Ev.neg a3 (Ev.step (fun q => by rw [coppicerref_MachineCheck.j0]) (Ev.pos (by simpa using a4) (Ev.now _)))))), fun h => absurd h (by decide), fun h => by have := h.k3; omega⟩
  have pre : ∀ {r : Int}, Ev (fun q => if (nx.length : Int) = n then (coppicerref_MachineCheck.l0 q nx (nx.length : Int) 0 n k nx s f) else (some 3)) r → Ev (fun q => coppicerref_MachineCheck.f q n k nx s f) r := fun h =>
    Ev.congr (fun q => by rw [coppicerref_MachineCheck.f]) (Ev.neg a1 (Ev.neg a2 (Ev.neg a3 (Ev.step (fun q => by rw [coppicerref_MachineCheck.j0]) (Ev.neg (by simpa using a4) h)))))
  by_cases a5 : (nx.length : Int) = n
  · by_cases a6 : nx.all (fun v => decide ((v.length : Int) = k)) = true
    · have hrow : ∀ l ∈ nx, (l.length : Int) = k := fun l hl => of_decide_eq_true (List.all_eq_true.1 a6 l hl)
      have hl1 := refcheck_l1 n k nx s f (by omega) (by omega) nx (by omega) (fun v hv => by have := hrow v hv; omega) nx.length 0 (by omega)
      rw [List.drop_zero] at hl1
      refine ⟨_, pre (Ev.pos a5 (refcheck_l0 n k nx s f nx (by omega) _ nx.length 0 (by omega) (fun _ => hl1) (fun h => by rw [List.drop_zero, a6] at h; exact absurd h (by decide)))), ?_⟩
      constructor
      · intro h
        by_cases b1 : nx.all (fun v => v.all (okN n)) = true
        · rw [if_pos b1] at h
          by_cases b2 : okN n s = true
          · rw [if_pos b2] at h
            by_cases b3 : f < 2 ^ n.toNat
            · exact ⟨by omega, by omega, by omega, by omega, a5, hrow, fun l hl x hx => okN_iff.1 (List.all_eq_true.1 (List.all_eq_true.1 b1 l hl) x hx), (okN_iff.1 b2).1, (okN_iff.1 b2).2, b3⟩
            · rw [if_neg b3] at h; exact absurd h (by decide)
          · rw [if_neg b2] at h; exact absurd h (by decide)
        · rw [if_neg b1] at h; exact absurd h (by decide)
      · intro h
        rw [if_pos (List.all_eq_true.2 fun l hl => List.all_eq_true.2 fun x hx => okN_iff.2 (h.tgt l hl x hx)), if_pos (okN_iff.2 ⟨h.s0, h.s1⟩), if_pos h.f1]
    · refine ⟨3, pre (Ev.pos a5 (refcheck_l0 n k nx s f nx (by omega) _ nx.length 0 (by omega) (fun h => by rw [List.drop_zero] at h; exact absurd h a6) (fun _ => rfl))), fun h => absurd h (by decide), fun h => absurd (List.all_eq_true.2 fun l hl => decide_eq_true (h.row l hl)) a6⟩
  · exact ⟨3, pre (Ev.neg a5 (Ev.now _)), fun h => absurd h (by decide), fun h => absurd h.len a5⟩
end Go.Proofs.Ytiiankjmeodjdaa.PVM
