/- Words on nets in plain Lean: what net.Sets and net.Sure answer. Conditions: the net is good. -/
import Derived.Test.YtiiankjmeodjdaaPDNet
import Derived.Test.YtiiankjmeodjdaaPDMachine
import Derived.Test.YtiiankjmeodjdaaGD10
namespace Go.Proofs.Ytiiankjmeodjdaa.PDM
set_option linter.unusedVariables false
set_option linter.unusedSimpArgs false
open Go.RowKit Go.Proofs.Ytiiankjmeodjdaa.GD Go.Proofs.YtiiankjmeodjdaaW.PrintWords Go.Proofs.YtiiankjmeodjdaaW.PrintLast Go.Proofs.YtiiankjmeodjdaaW.PrintMore

/-- Numbers below m, each once, are no more than m. -/
theorem nodup_le : ∀ (m : Nat) (l : List Int), l.Nodup → (∀ x ∈ l, 0 ≤ x ∧ x < m) → l.length ≤ m
  | 0, [], _, _ => Nat.le_refl _
  | 0, x :: l, _, h => by have := h x List.mem_cons_self; omega
  | m + 1, l, hn, h => by
    by_cases hm : (m : Int) ∈ l
    · have h1 := nodup_le m (l.erase (m : Int)) (hn.erase _) (fun x hx => by
        have h2 := (hn.mem_erase_iff).1 hx
        have h3 := h x h2.2
        have h4 := h2.1
        omega)
      rw [List.length_erase_of_mem hm] at h1
      omega
    · have := nodup_le m l hn (fun x hx => by
        have h3 := h x hx
        have : x ≠ (m : Int) := fun e => hm (e ▸ hx)
        omega)
      omega
theorem index_u32 (l : List Int) (x : Int) (hl : l.length ≤ 1000) : ∀ (d i : Nat), i + d = l.length → (∀ j, j < i → l.getD j 0 ≠ x) →
    ∃ r : Int, Ev (fun q => slices_Index_uint32_uint32.l0 q l x (l.length : Int) (i : Int)) r ∧ ((r = -1 ∧ x ∉ l) ∨ (0 ≤ r ∧ r < l.length ∧ l.getD r.toNat 0 = x)) := by
  intro d
  induction d with
  | zero =>
    intro i hi h
    refine ⟨-1, Ev.step (fun q => by rw [slices_Index_uint32_uint32.l0]) (Ev.neg (by omega) (Ev.now _)), .inl ⟨rfl, fun hx => ?_⟩⟩
    obtain ⟨j, hj, rfl⟩ := List.getElem_of_mem hx
    exact h j (by omega) (by rw [List.getD_eq_getElem?_getD, List.getElem?_eq_getElem hj, Option.getD_some])
  | succ d ih =>
    intro i hi h
    have hlt : i < l.length := by omega
    have pre : ∀ {r : Int}, Ev (fun q => if x = l.getD i 0 then some (i : Int) else slices_Index_uint32_uint32.l0 q l x (l.length : Int) ((i + 1 : Nat) : Int)) r → Ev (fun q => slices_Index_uint32_uint32.l0 q l x (l.length : Int) (i : Int)) r := by
      intro r hr
      refine Ev.step (fun q => by rw [slices_Index_uint32_uint32.l0]) ?_
      refine Ev.pos (by omega) ?_
      refine Ev.pos (by omega) ?_
      refine Ev.pos (by omega) ?_
      rw [rd_nat, w64 (n := (i : Int) + 1) (by omega) (by omega)]
      exact hr
    by_cases c : x = l.getD i 0
    · exact ⟨(i : Int), pre (Ev.pos c (Ev.now _)), .inr ⟨by omega, by omega, c.symm⟩⟩
    · obtain ⟨r, hr, h2⟩ := ih (i + 1) (by omega) (fun j hj => by
        rcases Nat.lt_or_ge j i with h3 | h3
        · exact h j h3
        · obtain rfl : j = i := by omega
          exact fun e => c e.symm)
      exact ⟨r, pre (Ev.neg c hr), h2⟩
theorem index_spec (l : List Int) (x : Int) (hl : l.length ≤ 1000) :
    ∃ r : Int, Ev (fun q => slices_Index_uint32_uint32.f q l x) r ∧ ((r = -1 ∧ x ∉ l) ∨ (0 ≤ r ∧ r < l.length ∧ l.getD r.toNat 0 = x)) := by
  obtain ⟨r, hr, h⟩ := index_u32 l x hl l.length 0 (by omega) (fun j hj => absurd hj (Nat.not_lt_zero _))
  refine ⟨r, Ev.congr (fun q => by rw [slices_Index_uint32_uint32.f]) ?_, h⟩
  exact hr

/-- A set's next one, told as a number of the program. -/
def stI (arcs : List S27) (x s : Int) : Int := (stN arcs x.toNat s : Nat)
structure SetsInv (n k : Int) (arcs : List S27) (sets : List Int) (next : List (List Int)) : Prop where
  nodup : sets.Nodup
  inn : ∀ x ∈ sets, 0 ≤ x ∧ x < 2 ^ n.toNat
  row : ∀ l ∈ next, (l.length : Int) = k
  nxt : ∀ j, j < next.length → ∀ s : Int, 0 ≤ s → s < k → 0 ≤ stepM next j s ∧ stepM next j s < sets.length ∧ sets.getD (stepM next j s).toNat 0 = stI arcs (sets.getD j 0) s
theorem getD_app {l m : List Int} {i : Nat} (h : i < l.length) : (l ++ m).getD i 0 = l.getD i 0 := by
  rw [List.getD_eq_getElem?_getD, List.getElem?_append_left h, List.getD_eq_getElem?_getD]
theorem sets_len {n k : Int} {arcs : List S27} {st f : Int} (h : GoodN n k arcs st f) {sets : List Int} (hn : sets.Nodup) (hi : ∀ x ∈ sets, 0 ≤ x ∧ x < 2 ^ n.toNat) : sets.length ≤ 128 := by
  refine nodup_le 128 sets hn fun x hx => ?_
  have h1 := hi x hx
  rw [pow_cast] at h1
  have := pow_le7 (m := n.toNat) (by have := h.n7; omega)
  omega
theorem sets_l1 {n k : Int} {arcs : List S27} {st f : Int} (h : GoodN n k arcs st f) (next : List (List Int)) (i : Nat) : ∀ (d s : Nat) (sets row : List Int), (s : Int) + d = k → i < sets.length → sets.Nodup → (∀ x ∈ sets, 0 ≤ x ∧ x < 2 ^ n.toNat) → row.length = s → (∀ t, t < s → 0 ≤ row.getD t 0 ∧ row.getD t 0 < sets.length ∧ sets.getD (row.getD t 0).toNat 0 = stI arcs (sets.getD i 0) (t : Int)) →
    ∃ (ext row' : List Int), (row'.length : Int) = k ∧ (sets ++ ext).Nodup ∧ (∀ x ∈ sets ++ ext, 0 ≤ x ∧ x < 2 ^ n.toNat) ∧ (∀ t : Nat, (t : Int) < k → 0 ≤ row'.getD t 0 ∧ row'.getD t 0 < (sets ++ ext).length ∧ (sets ++ ext).getD (row'.getD t 0).toNat 0 = stI arcs (sets.getD i 0) (t : Int)) ∧
      ∀ r, Ev (fun q => if next.length < 5864062014805 then net_Sets.l0 q (sets ++ ext) (next ++ [row']) (wrap64 ((i : Int) + 1)) n k arcs st f else none) r → Ev (fun q => net_Sets.l1 q sets next (i : Int) row k (s : Int) n k arcs st f) r := by
  have hk3 := h.k3
  intro d
  induction d with
  | zero =>
    intro s sets row hs hi hn hin hl hr
    refine ⟨[], row, by omega, by rw [List.append_nil]; exact hn, by rw [List.append_nil]; exact hin, fun t ht => by rw [List.append_nil]; exact hr t (by omega), fun r hE => ?_⟩
    rw [List.append_nil] at hE
    refine Ev.step (fun q => by rw [net_Sets.l1]) ?_
    refine Ev.neg (by omega) ?_
    exact hE
  | succ d ih =>
    intro s sets row hs hi hn hin hl hr
    have hsl := sets_len h hn hin
    have hx := hin _ (getD_mem (d := (0 : Int)) hi)
    obtain ⟨S, hS⟩ := Int.eq_ofNat_of_zero_le hx.1
    have hSlt : S < 2 ^ n.toNat := by have := hx.2; rw [hS, pow_cast] at this; exact Int.ofNat_lt.1 this
    have hst := net_step_good h hSlt (s : Int)
    have e0 : stI arcs (sets.getD i 0) (s : Int) = (stN arcs S s : Nat) := by unfold stI; rw [hS, Int.toNat_natCast]
    obtain ⟨r1, hr1, hor⟩ := index_spec sets (stN arcs S s : Nat) (by omega)
    have pre : ∀ {r : List Int × List (List Int)}, Ev (fun q => if r1 < 0 then (if sets.length < 35184372088832 then (if row.length < 17592186044416 then (net_Sets.l1 q (sets ++ [((stN arcs S s : Nat) : Int)]) next (i : Int) (row ++ [(sets.length : Int)]) k ((s + 1 : Nat) : Int) n k arcs st f) else none) else none) else (if row.length < 17592186044416 then (net_Sets.l1 q sets next (i : Int) (row ++ [r1]) k ((s + 1 : Nat) : Int) n k arcs st f) else none)) r →
        Ev (fun q => net_Sets.l1 q sets next (i : Int) row k (s : Int) n k arcs st f) r := by
      intro r hE
      refine Ev.step (fun q => by rw [net_Sets.l1]) ?_
      refine Ev.pos (by omega) ?_
      refine Ev.pos (by omega) ?_
      refine Ev.pos (by omega) ?_
      rw [rd_nat, hS]
      refine Ev.bind hst ?_
      refine Ev.bind hr1 ?_
      rw [w64 (n := (s : Int) + 1) (by omega) (by omega)]
      exact hE
    by_cases c : r1 < 0
    · have hnot : ((stN arcs S s : Nat) : Int) ∉ sets := by
        rcases hor with h1 | h1
        · exact h1.2
        · omega
      have hn2 : (sets ++ [((stN arcs S s : Nat) : Int)]).Nodup := by
        rw [List.nodup_append]
        refine ⟨hn, by simp, fun a ha b hb => ?_⟩
        rw [List.mem_singleton] at hb
        subst hb
        exact fun e => hnot (e ▸ ha)
      have hin2 : ∀ x ∈ sets ++ [((stN arcs S s : Nat) : Int)], 0 ≤ x ∧ x < 2 ^ n.toNat := by
        intro x hx
        rcases List.mem_append.1 hx with hx | hx
        · exact hin x hx
        · rw [List.mem_singleton] at hx
          subst hx
          rw [pow_cast]
          exact ⟨Int.natCast_nonneg _, Int.ofNat_lt.2 (stN_lt h S _)⟩
      obtain ⟨ext, row', g1, g2, g3, g4, g5⟩ := ih (s + 1) (sets ++ [((stN arcs S s : Nat) : Int)]) (row ++ [(sets.length : Int)]) (by omega) (by rw [List.length_append]; omega) hn2 hin2 (by rw [List.length_append, hl]; rfl) (fun t ht => by
        rw [getD_app (l := sets) hi]
        rcases Nat.lt_or_ge t s with h3 | h3
        · obtain ⟨u1, u2, u3⟩ := hr t h3
          rw [getD_app (by omega)]
          refine ⟨u1, by rw [List.length_append]; omega, ?_⟩
          rw [getD_app (by omega)]
          exact u3
        · obtain rfl : t = s := by omega
          rw [show (row ++ [(sets.length : Int)]).getD t 0 = (sets.length : Int) by rw [List.getD_eq_getElem?_getD, List.getElem?_append_right (by omega), hl, Nat.sub_self]; rfl]
          refine ⟨by omega, by rw [List.length_append, List.length_singleton]; omega, ?_⟩
          rw [Int.toNat_natCast, e0, List.getD_eq_getElem?_getD, List.getElem?_append_right (Nat.le_refl _), Nat.sub_self]
          rfl)
      rw [getD_app (l := sets) hi] at g4
      rw [List.append_assoc] at g2 g3 g4 g5
      exact ⟨_, row', g1, g2, g3, g4, fun r hE => pre (Ev.pos c (Ev.pos (by omega) (Ev.pos (by omega) (g5 r hE))))⟩
    · have hin1 : 0 ≤ r1 ∧ r1 < sets.length ∧ sets.getD r1.toNat 0 = ((stN arcs S s : Nat) : Int) := by
        rcases hor with h1 | h1
        · omega
        · exact h1
      obtain ⟨ext, row', g1, g2, g3, g4, g5⟩ := ih (s + 1) sets (row ++ [r1]) (by omega) hi hn hin (by rw [List.length_append, hl]; rfl) (fun t ht => by
        rcases Nat.lt_or_ge t s with h3 | h3
        · obtain ⟨u1, u2, u3⟩ := hr t h3
          rw [getD_app (by omega)]
          exact ⟨u1, u2, u3⟩
        · obtain rfl : t = s := by omega
          rw [show (row ++ [r1]).getD t 0 = r1 by rw [List.getD_eq_getElem?_getD, List.getElem?_append_right (by omega), hl, Nat.sub_self]; rfl, e0]
          exact hin1)
      exact ⟨ext, row', g1, g2, g3, g4, fun r hE => pre (Ev.neg c (Ev.pos (by omega) (g5 r hE)))⟩
theorem stepM_app {next : List (List Int)} {l : List Int} {j : Nat} (h : j < next.length) (s : Int) : stepM (next ++ [l]) j s = stepM next j s := by
  unfold stepM
  rw [Int.toNat_natCast, List.getD_eq_getElem?_getD (l := next ++ [l]), List.getElem?_append_left h, ← List.getD_eq_getElem?_getD]
theorem sets_l0 {n k : Int} {arcs : List S27} {st f : Int} (h : GoodN n k arcs st f) : ∀ (d i : Nat) (sets : List Int) (next : List (List Int)), i + d = 129 → next.length = i → i ≤ sets.length → SetsInv n k arcs sets next →
    ∃ (ext : List Int) (next' : List (List Int)), next'.length = (sets ++ ext).length ∧ SetsInv n k arcs (sets ++ ext) next' ∧ Ev (fun q => net_Sets.l0 q sets next (i : Int) n k arcs st f) (sets ++ ext, next') := by
  have hk1 := h.k1
  intro d
  induction d with
  | zero =>
    intro i sets next hi hl hle inv
    have := sets_len h inv.nodup inv.inn
    omega
  | succ d ih =>
    intro i sets next hi hl hle inv
    have hsl := sets_len h inv.nodup inv.inn
    by_cases c : i < sets.length
    · obtain ⟨ext, row, g1, g2, g3, g4, g5⟩ := sets_l1 h next i k.toNat 0 sets [] (by omega) c inv.nodup inv.inn rfl (fun t ht => absurd ht (Nat.not_lt_zero _))
      have inv2 : SetsInv n k arcs (sets ++ ext) (next ++ [row]) := by
        refine ⟨g2, g3, fun l hl2 => ?_, fun j hj s s0 s1 => ?_⟩
        · rcases List.mem_append.1 hl2 with h3 | h3
          · exact inv.row l h3
          · rw [List.mem_singleton] at h3; subst h3; exact g1
        · rw [List.length_append, List.length_singleton] at hj
          obtain ⟨t, rfl⟩ := Int.eq_ofNat_of_zero_le s0
          rcases Nat.lt_or_ge j next.length with h3 | h3
          · obtain ⟨u1, u2, u3⟩ := inv.nxt j h3 t s0 s1
            rw [stepM_app h3, getD_app (l := sets) (by omega)]
            refine ⟨u1, by rw [List.length_append]; omega, ?_⟩
            rw [getD_app (by omega)]
            exact u3
          · obtain rfl : j = i := by omega
            rw [show stepM (next ++ [row]) (j : Nat) (t : Int) = row.getD t 0 by unfold stepM; rw [Int.toNat_natCast, Int.toNat_natCast, List.getD_eq_getElem?_getD (l := next ++ [row]), List.getElem?_append_right (by omega), hl, Nat.sub_self]; rfl, getD_app (l := sets) c]
            exact g4 t s1
      obtain ⟨ext2, next', e1, e2, e3⟩ := ih (i + 1) (sets ++ ext) (next ++ [row]) (by omega) (by rw [List.length_append, hl]; rfl) (by rw [List.length_append]; omega) inv2
      rw [List.append_assoc] at e1 e2 e3
      refine ⟨ext ++ ext2, next', e1, e2, ?_⟩
      refine Ev.step (fun q => by rw [net_Sets.l0]) ?_
      refine Ev.pos (by omega) ?_
      refine g5 _ (Ev.pos (by omega) ?_)
      rw [w64 (n := (i : Int) + 1) (by omega) (by omega)]
      exact e3
    · refine ⟨[], next, by rw [List.append_nil]; omega, by rw [List.append_nil]; exact inv, ?_⟩
      rw [List.append_nil]
      refine Ev.step (fun q => by rw [net_Sets.l0]) ?_
      refine Ev.neg (by omega) ?_
      exact Ev.now _
theorem sets_good {n k : Int} {arcs : List S27} {st f : Int} (h : GoodN n k arcs st f) (s0 : 0 ≤ st) : ∃ (sets : List Int) (next : List (List Int)), next.length = sets.length ∧ 0 < sets.length ∧ sets.getD 0 0 = (freeS arcs st.toNat : Nat) ∧ SetsInv n k arcs sets next ∧ Ev (fun q => net_Sets.f q n k arcs st f) (sets, next) := by
  obtain ⟨ST, rfl⟩ := Int.eq_ofNat_of_zero_le s0
  have hS : ST < 2 ^ n.toNat := by have := h.st; rw [pow_cast] at this; exact Int.ofNat_lt.1 this
  have hf := free_good h hS
  obtain ⟨ext, next, g1, g2, g3⟩ := sets_l0 h 129 0 [((freeS arcs ST : Nat) : Int)] [] (by omega) rfl (by simp) ⟨by simp, fun x hx => by
    rw [List.mem_singleton] at hx
    subst hx
    rw [pow_cast]
    exact ⟨Int.natCast_nonneg _, Int.ofNat_lt.2 (freeS_lt h hS)⟩, fun l hl => absurd hl (by simp), fun j hj => absurd hj (Nat.not_lt_zero _)⟩
  refine ⟨_, next, g1, by simp, ?_, g2, ?_⟩
  · rw [Int.toNat_natCast]; rfl
  · refine Ev.congr (fun q => by rw [net_Sets.f]) ?_
    refine Ev.bind hf ?_
    exact g3
theorem sure_l0 {n k : Int} {arcs : List S27} {st f : Int} (f0 : 0 ≤ f) (f1 : f < 4294967296) (sets : List Int) (hl : sets.length ≤ 7) (hin : ∀ x ∈ sets, 0 ≤ x ∧ x < 4294967296) (N K S : Int) (nx : List (List Int)) : ∀ (d i : Nat) (F : Nat), i + d = sets.length → F < 2 ^ i → (∀ j, F.testBit j = (decide (j < i) && decide (¬ ((sets.getD j 0).toNat &&& f.toNat) = 0))) →
    ∃ F' : Nat, F' < 2 ^ sets.length ∧ (∀ j, F'.testBit j = (decide (j < sets.length) && decide (¬ ((sets.getD j 0).toNat &&& f.toNat) = 0))) ∧ Ev (fun q => net_Sure.l0 q sets (sets.length : Int) (i : Int) n k arcs st f N K nx S (F : Int)) (N, K, nx, S, (F' : Int), 0) := by
  intro d
  induction d with
  | zero =>
    intro i F hi hF hb
    obtain rfl : i = sets.length := by omega
    exact ⟨F, hF, hb, Ev.step (fun q => by rw [net_Sure.l0]) (Ev.neg (by omega) (Ev.now _))⟩
  | succ d ih =>
    intro i F hi hF hb
    have hlt : i < sets.length := by omega
    have hx := hin _ (getD_mem (d := (0 : Int)) hlt)
    obtain ⟨X, hX⟩ := Int.eq_ofNat_of_zero_le hx.1
    obtain ⟨G, rfl⟩ := Int.eq_ofNat_of_zero_le f0
    have hp : 2 ^ i ≤ 128 := pow_le7 (by omega)
    have hp1 : 2 ^ i < 2 ^ (i + 1) := Nat.pow_lt_pow_right (by omega) (by omega)
    rw [Int.toNat_natCast] at hb ih ⊢
    have pre : ∀ {r : Int × Int × List (List Int) × Int × Int × Int}, Ev (fun q => if Go.bits .and .u32 (X : Int) (G : Int) = 0 then (net_Sure.l0 q sets (sets.length : Int) ((i + 1 : Nat) : Int) n k arcs st (G : Int) N K nx S (F : Int)) else (net_Sure.l0 q sets (sets.length : Int) ((i + 1 : Nat) : Int) n k arcs st (G : Int) N K nx S (Go.bits .or .u32 (F : Int) (shl .u32 1 (i : Int))))) r →
        Ev (fun q => net_Sure.l0 q sets (sets.length : Int) (i : Int) n k arcs st (G : Int) N K nx S (F : Int)) r := by
      intro r hE
      refine Ev.step (fun q => by rw [net_Sure.l0]) ?_
      refine Ev.pos (by omega) ?_
      refine Ev.pos (by omega) ?_
      refine Ev.pos (by omega) ?_
      rw [rd_nat, hX, w64 (n := (i : Int) + 1) (by omega) (by omega)]
      exact hE
    have hXn : (sets.getD i 0).toNat = X := by rw [hX, Int.toNat_natCast]
    have hand : Go.bits .and .u32 (X : Int) (G : Int) = ((X &&& G : Nat) : Int) := and_nat (by omega) (by omega)
    by_cases c : X &&& G = 0
    · obtain ⟨F', e1, e2, e3⟩ := ih (i + 1) F (by omega) (by omega) (fun j => by
        rw [hb j]
        by_cases e : j = i
        · subst e
          rw [hXn, c]; simp
        · rw [show decide (j < i + 1) = decide (j < i) by rw [decide_eq_decide]; omega])
      exact ⟨F', e1, e2, pre (Ev.pos (by rw [hand, c]; rfl) e3)⟩
    · obtain ⟨F', e1, e2, e3⟩ := ih (i + 1) (F ||| 2 ^ i) (by omega) (Nat.or_lt_two_pow (by omega) hp1) (fun j => by
        rw [Nat.testBit_or, hb j, Nat.testBit_two_pow]
        by_cases e : j = i
        · subst e
          rw [hXn]; simp [c]
        · rw [show decide (j < i + 1) = decide (j < i) by rw [decide_eq_decide]; omega, show decide (i = j) = false from decide_eq_false (fun h => e h.symm), Bool.or_false])
      refine ⟨F', e1, e2, pre (Ev.neg (by rw [hand]; omega) ?_)⟩
      rw [or_bit (by omega) (by omega) (by omega), Int.toNat_natCast]
      exact e3
/-- Sets as states: too many; or a machine that takes what the net does. -/
theorem sure_good {n k : Int} {arcs : List S27} {st f : Int} (h : GoodN n k arcs st f) (s0 : 0 ≤ st) (s1 : st < 4294967296) (f0 : 0 ≤ f) (f1 : f < 4294967296) :
    (Ev (fun q => net_Sure.f q n k arcs st f) (0, 0, [], 0, 0, 1)) ∨
    ∃ (sets : List Int) (next : List (List Int)) (F : Int), 0 ≤ F ∧ F < 4294967296 ∧ GoodM sets.length k next 0 F ∧ sets.getD 0 0 = (freeS arcs st.toNat : Nat) ∧ SetsInv n k arcs sets next ∧ next.length = sets.length ∧ (∀ j : Int, 0 ≤ j → j < sets.length → bit F j = decide (¬ ((sets.getD j.toNat 0).toNat &&& f.toNat) = 0)) ∧ Ev (fun q => net_Sure.f q n k arcs st f) (sets.length, k, next, 0, F, 0) := by
  obtain ⟨e, he, hi⟩ := netcheck_spec (n := n) (k := k) (arcs := arcs) s0 s1 f0 f1
  obtain ⟨sets, next, g1, g2, g3, inv, g5⟩ := sets_good h s0
  have hp : (2 : Int) ^ n.toNat ≤ 128 := by rw [pow_cast]; have := pow_le7 (m := n.toNat) (by have := h.n7; omega); omega
  by_cases c : (sets.length : Int) > 7
  · left
    refine Ev.congr (fun q => by rw [net_Sure.f]) ?_
    refine Ev.bind he ?_
    refine Ev.pos (hi.2 h) ?_
    refine Ev.bind g5 ?_
    refine Ev.pos c ?_
    exact Ev.now _
  · right
    obtain ⟨F, e1, e2, e3⟩ := sure_l0 (n := n) (k := k) (arcs := arcs) (st := st) f0 f1 sets (by omega) (fun x hx => by have := inv.inn x hx; omega) sets.length k 0 next sets.length 0 0 (by omega) (by simp) (fun j => by simp)
    have hpF := pow_le7 (m := sets.length) (by omega)
    refine ⟨sets, next, (F : Int), Int.natCast_nonneg _, by omega, ⟨by omega, by omega, h.k1, h.k3, by omega, inv.row, fun l hl x hx => ?_, by omega, by omega, ?_⟩, g3, inv, g1, fun j j0 j1 => ?_, ?_⟩
    · obtain ⟨j, hj, rfl⟩ := List.getElem_of_mem hl
      obtain ⟨t, ht, rfl⟩ := List.getElem_of_mem hx
      have hr := inv.row _ (List.getElem_mem hj)
      have := inv.nxt j hj t (by omega) (by omega)
      have e : stepM next j t = (next[j])[t] := by
        unfold stepM
        rw [Int.toNat_natCast, Int.toNat_natCast, List.getD_eq_getElem?_getD (l := next), List.getElem?_eq_getElem hj, Option.getD_some, List.getD_eq_getElem?_getD, List.getElem?_eq_getElem ht, Option.getD_some]
      rw [e] at this
      exact ⟨this.1, this.2.1⟩
    · rw [Int.toNat_natCast, pow_cast]
      exact Int.ofNat_lt.2 e1
    · obtain ⟨J, rfl⟩ := Int.eq_ofNat_of_zero_le j0
      rw [bit_nat, Int.toNat_natCast, e2, decide_eq_true (by omega), Bool.true_and]
    · refine Ev.congr (fun q => by rw [net_Sure.f]) ?_
      refine Ev.bind he ?_
      refine Ev.pos (hi.2 h) ?_
      refine Ev.bind g5 ?_
      refine Ev.neg c ?_
      exact e3
theorem sure_leads {n k : Int} {arcs : List S27} {st f F : Int} {sets : List Int} {next : List (List Int)} (g : GoodM sets.length k next 0 F) (inv : SetsInv n k arcs sets next) (hl : next.length = sets.length) : ∀ (w : List Int) (j : Int), (∀ s ∈ w, 0 ≤ s ∧ s < k) → 0 ≤ j ∧ j < sets.length →
    (sets.getD (leads next j w).toNat 0) = (leadsN arcs (sets.getD j.toNat 0).toNat w : Nat) ∨ w = []
  | [], j, _, _ => .inr rfl
  | s :: w, j, hw, hj => by
    left
    have hs := hw s List.mem_cons_self
    obtain ⟨J, rfl⟩ := Int.eq_ofNat_of_zero_le hj.1
    obtain ⟨u1, u2, u3⟩ := inv.nxt J (by omega) s hs.1 hs.2
    show sets.getD (leads next (stepM next J s) w).toNat 0 = (leadsN arcs (stN arcs (sets.getD J 0).toNat s) w : Nat)
    have e : (sets.getD (stepM next J s).toNat 0).toNat = stN arcs (sets.getD J 0).toNat s := by rw [u3]; unfold stI; rw [Int.toNat_natCast]
    rcases sure_leads (st := st) (f := f) g inv hl w (stepM next J s) (fun x hx => hw x (List.mem_cons_of_mem _ hx)) ⟨u1, u2⟩ with h1 | h1
    · rw [h1, e]
    · subst h1
      show sets.getD (stepM next J s).toNat 0 = (stN arcs (sets.getD J 0).toNat s : Nat)
      rw [u3]
      rfl
end Go.Proofs.Ytiiankjmeodjdaa.PDM
