/- Words on package least in plain Lean: what least.Small answers. Conditions: the machine is good. -/
import Derived.Test.YtiiankjmeodjdaaPELeast
namespace Go.Proofs.Ytiiankjmeodjdaa.PEM
set_option linter.unusedVariables false
set_option linter.unusedSimpArgs false
open Go.RowKit Go.Proofs.Ytiiankjmeodjdaa.GE Go.Proofs.YtiiankjmeodjdaaW.PrintWords Go.Proofs.YtiiankjmeodjdaaW.PrintLast Go.Proofs.YtiiankjmeodjdaaW.PrintMore

theorem bit_nat (S : Nat) (i : Int) : bit (S : Int) i = S.testBit i.toNat := by unfold bit; rw [Int.toNat_natCast]
theorem pow_cast (m : Nat) : ((2 : Int) ^ m) = ((2 ^ m : Nat) : Int) := by simp
theorem pow_le7 {m : Nat} (h : m ≤ 7) : 2 ^ m ≤ 128 := Nat.pow_le_pow_right (n := 2) (by omega) h
theorem or_bit {S : Nat} (hS : S < 4294967296) {t : Int} (h0 : 0 ≤ t) (h1 : t < 32) : Go.bits .or .u32 (S : Int) (shl .u32 1 t) = ((S ||| 2 ^ t.toNat : Nat) : Int) := by
  rw [shl_one h0 h1, pow_cast, u32_or_nat _ _ hS (by
    have : 2 ^ t.toNat ≤ 2 ^ 31 := Nat.pow_le_pow_right (by omega) (by omega)
    omega)]
theorem or_none {S : Nat} (hS : S < 4294967296) (t : Int) : Go.bits .or .u32 (S : Int) (shl .u32 0 t) = (S : Int) := by
  rw [show shl .u32 0 t = ((0 : Nat) : Int) by unfold shl; rw [IntKind.wrap_u32']; simp, u32_or_nat _ _ hS (by omega), Nat.or_zero]
/-- Numbers below m, each once, are no more than m. -/
theorem nodup_le : ∀ (m : Nat) (l : List Int), l.Nodup → (∀ x ∈ l, 0 ≤ x ∧ x < m) → l.length ≤ m
  | 0, [], _, _ => Nat.le_refl _
  | 0, x :: l, _, h => by have := h x List.mem_cons_self; omega
  | m + 1, l, hn, h => by
    by_cases hm : (m : Int) ∈ l
    · have h1 := nodup_le m (l.erase (m : Int)) (hn.erase _) (fun x hx => by
        have h2 := (hn.mem_erase_iff).1 hx
        have h3 := h x h2.2
        have h4 := h2.1
        omega)
      rw [List.length_erase_of_mem hm] at h1
      omega
    · have := nodup_le m l hn (fun x hx => by
        have h3 := h x hx
        have : x ≠ (m : Int) := fun e => hm (e ▸ hx)
        omega)
      omega
theorem index_int (l : List Int) (x : Int) (hl : l.length ≤ 1000) : ∀ (d i : Nat), i + d = l.length → (∀ j, j < i → l.getD j 0 ≠ x) →
    ∃ r : Int, Ev (fun q => slices_Index_int_int.l0 q l x (l.length : Int) (i : Int)) r ∧ ((r = -1 ∧ x ∉ l) ∨ (0 ≤ r ∧ r < l.length ∧ l.getD r.toNat 0 = x)) := by
  intro d
  induction d with
  | zero =>
    intro i hi h
    refine ⟨-1, Ev.step (fun q => by rw [slices_Index_int_int.l0]) (Ev.neg (by omega) (Ev.now _)), .inl ⟨rfl, fun hx => ?_⟩⟩
    obtain ⟨j, hj, rfl⟩ := List.getElem_of_mem hx
    exact h j (by omega) (by rw [List.getD_eq_getElem?_getD, List.getElem?_eq_getElem hj, Option.getD_some])
  | succ d ih =>
    intro i hi h
    have hlt : i < l.length := by omega
    have pre : ∀ {r : Int}, Ev (fun q => if x = l.getD i 0 then some (i : Int) else slices_Index_int_int.l0 q l x (l.length : Int) ((i + 1 : Nat) : Int)) r → Ev (fun q => slices_Index_int_int.l0 q l x (l.length : Int) (i : Int)) r := by
      intro r hr
      refine Ev.step (fun q => by rw [slices_Index_int_int.l0]) ?_
      refine Ev.pos (by omega) ?_
      refine Ev.pos (by omega) ?_
      refine Ev.pos (by omega) ?_
      rw [rd_nat, w64 (n := (i : Int) + 1) (by omega) (by omega)]
      exact hr
    by_cases c : x = l.getD i 0
    · exact ⟨(i : Int), pre (Ev.pos c (Ev.now _)), .inr ⟨by omega, by omega, c.symm⟩⟩
    · obtain ⟨r, hr, h2⟩ := ih (i + 1) (by omega) (fun j hj => by
        rcases Nat.lt_or_ge j i with h3 | h3
        · exact h j h3
        · obtain rfl : j = i := by omega
          exact fun e => c e.symm)
      exact ⟨r, pre (Ev.neg c hr), h2⟩
theorem index_spec (l : List Int) (x : Int) (hl : l.length ≤ 1000) :
    ∃ r : Int, Ev (fun q => slices_Index_int_int.f q l x) r ∧ ((r = -1 ∧ x ∉ l) ∨ (0 ≤ r ∧ r < l.length ∧ l.getD r.toNat 0 = x)) := by
  obtain ⟨r, hr, h⟩ := index_int l x hl l.length 0 (by omega) (fun j hj => absurd hj (Nat.not_lt_zero _))
  refine ⟨r, Ev.congr (fun q => by rw [slices_Index_int_int.f]) ?_, h⟩
  exact hr

/-- Where a name leads by a symbol. -/
def fI (F : List Int) (nx : List (List Int)) (x s : Int) : Int := F.getD (stepM nx x s).toNat 0
structure NamesInv (n k : Int) (F : List Int) (nx : List (List Int)) (sets : List Int) (next : List (List Int)) : Prop where
  nodup : sets.Nodup
  inn : ∀ x ∈ sets, 0 ≤ x ∧ x < n
  row : ∀ l ∈ next, (l.length : Int) = k
  nxt : ∀ j, j < next.length → ∀ s : Int, 0 ≤ s → s < k → 0 ≤ stepM next j s ∧ stepM next j s < sets.length ∧ sets.getD (stepM next j s).toNat 0 = fI F nx (sets.getD j 0) s
theorem getD_app {l m : List Int} {i : Nat} (h : i < l.length) : (l ++ m).getD i 0 = l.getD i 0 := by
  rw [List.getD_eq_getElem?_getD, List.getElem?_append_left h, List.getD_eq_getElem?_getD]
theorem names_len {n : Int} (hn7 : n ≤ 7) (hn1 : 1 ≤ n) {sets : List Int} (hn : sets.Nodup) (hi : ∀ x ∈ sets, 0 ≤ x ∧ x < n) : (sets.length : Int) ≤ n := by
  have := nodup_le n.toNat sets hn fun x hx => by
    have h1 := hi x hx
    omega
  omega
theorem fI_in {n k : Int} {nx : List (List Int)} {st f : Int} (h : GoodM n k nx st f) {F : List Int} (al : Alike' n k nx f F) {x s : Int} (hx : 0 ≤ x ∧ x < n) (hs : 0 ≤ s ∧ s < k) : 0 ≤ fI F nx x s ∧ fI F nx x s < n := by
  have h1 := stepM_in h hx hs
  have h2 := al.rep (stepM nx x s) h1.1 h1.2
  unfold fI
  omega
theorem small_l1 {n k : Int} {nx : List (List Int)} {st f : Int} (h : GoodM n k nx st f) {F : List Int} (al : Alike' n k nx f F) (N K S T : Int) (next : List (List Int)) (i : Nat) : ∀ (d s : Nat) (sets row : List Int), (s : Int) + d = k → i < sets.length → sets.Nodup → (∀ x ∈ sets, 0 ≤ x ∧ x < n) → row.length = s → (∀ t, t < s → 0 ≤ row.getD t 0 ∧ row.getD t 0 < sets.length ∧ sets.getD (row.getD t 0).toNat 0 = fI F nx (sets.getD i 0) (t : Int)) →
    ∃ (ext row' : List Int), (row'.length : Int) = k ∧ (sets ++ ext).Nodup ∧ (∀ x ∈ sets ++ ext, 0 ≤ x ∧ x < n) ∧ (∀ t : Nat, (t : Int) < k → 0 ≤ row'.getD t 0 ∧ row'.getD t 0 < (sets ++ ext).length ∧ (sets ++ ext).getD (row'.getD t 0).toNat 0 = fI F nx (sets.getD i 0) (t : Int)) ∧
      ∀ r, Ev (fun q => if next.length < 5864062014805 then least_small.l0 q F (sets ++ ext) (wrap64 ((i : Int) + 1)) n k nx st f N K (next ++ [row']) S T else none) r → Ev (fun q => least_small.l1 q F sets (i : Int) row k (s : Int) n k nx st f N K next S T) r := by
  have hk3 := h.k3
  have hn7 := h.n7
  have hn1 := h.n1
  have hlen := h.len
  have hFl := al.len
  intro d
  induction d with
  | zero =>
    intro s sets row hs hi hn hin hl hr
    refine ⟨[], row, by omega, by rw [List.append_nil]; exact hn, by rw [List.append_nil]; exact hin, fun t ht => by rw [List.append_nil]; exact hr t (by omega), fun r hE => ?_⟩
    rw [List.append_nil] at hE
    refine Ev.step (fun q => by rw [least_small.l1]) ?_
    refine Ev.neg (by omega) ?_
    exact hE
  | succ d ih =>
    intro s sets row hs hi hn hin hl hr
    have hsl := names_len hn7 hn1 hn hin
    have hx := hin _ (getD_mem (d := (0 : Int)) hi)
    have hf := fI_in h al (x := sets.getD i 0) (s := (s : Int)) hx ⟨by omega, by omega⟩
    have hst := stepM_in h (a := sets.getD i 0) (s := (s : Int)) hx ⟨by omega, by omega⟩
    have hrow := h.row _ (getD_mem (d := []) (xs := nx) (i := (sets.getD i 0).toNat) (by omega))
    obtain ⟨r1, hr1, hor⟩ := index_spec sets (fI F nx (sets.getD i 0) s) (by omega)
    have pre : ∀ {r : Int × Int × (List (List Int)) × Int × Int × List Int}, Ev (fun q => if r1 < 0 then (if sets.length < 17592186044416 then (if row.length < 17592186044416 then (least_small.l1 q F (sets ++ [fI F nx (sets.getD i 0) s]) (i : Int) (row ++ [(sets.length : Int)]) k ((s + 1 : Nat) : Int) n k nx st f N K next S T) else none) else none) else (if row.length < 17592186044416 then (least_small.l1 q F sets (i : Int) (row ++ [r1]) k ((s + 1 : Nat) : Int) n k nx st f N K next S T) else none)) r →
        Ev (fun q => least_small.l1 q F sets (i : Int) row k (s : Int) n k nx st f N K next S T) r := by
      intro r hE
      refine Ev.step (fun q => by rw [least_small.l1]) ?_
      refine Ev.pos (by omega) ?_
      refine Ev.pos (by omega) ?_
      refine Ev.pos (by omega) ?_
      rw [rd_nat, show rd_L1 nx (sets.getD i 0) = nx.getD (sets.getD i 0).toNat [] from rfl, show rd (nx.getD (sets.getD i 0).toNat []) (s : Int) = stepM nx (sets.getD i 0) (s : Int) from rfl, show rd F (stepM nx (sets.getD i 0) (s : Int)) = fI F nx (sets.getD i 0) s from rfl]
      refine Ev.pos hx.1 ?_
      refine Ev.pos (by omega) ?_
      refine Ev.pos (by omega) ?_
      refine Ev.pos (by omega) ?_
      refine Ev.pos hst.1 ?_
      refine Ev.pos (by omega) ?_
      refine Ev.bind hr1 ?_
      rw [w64 (n := (s : Int) + 1) (by omega) (by omega)]
      exact hE
    by_cases c : r1 < 0
    · have hnot : fI F nx (sets.getD i 0) s ∉ sets := by
        rcases hor with h1 | h1
        · exact h1.2
        · omega
      have hn2 : (sets ++ [fI F nx (sets.getD i 0) s]).Nodup := by
        rw [List.nodup_append]
        refine ⟨hn, by simp, fun a ha b hb => ?_⟩
        rw [List.mem_singleton] at hb
        subst hb
        exact fun e => hnot (e ▸ ha)
      have hin2 : ∀ x ∈ sets ++ [fI F nx (sets.getD i 0) s], 0 ≤ x ∧ x < n := by
        intro x hx
        rcases List.mem_append.1 hx with hx | hx
        · exact hin x hx
        · rw [List.mem_singleton] at hx
          subst hx
          exact hf
      obtain ⟨ext, row', g1, g2, g3, g4, g5⟩ := ih (s + 1) (sets ++ [fI F nx (sets.getD i 0) s]) (row ++ [(sets.length : Int)]) (by omega) (by rw [List.length_append]; omega) hn2 hin2 (by rw [List.length_append, hl]; rfl) (fun t ht => by
        rw [getD_app (l := sets) hi]
        rcases Nat.lt_or_ge t s with h3 | h3
        · obtain ⟨u1, u2, u3⟩ := hr t h3
          rw [getD_app (by omega)]
          refine ⟨u1, by rw [List.length_append]; omega, ?_⟩
          rw [getD_app (by omega)]
          exact u3
        · obtain rfl : t = s := by omega
          rw [show (row ++ [(sets.length : Int)]).getD t 0 = (sets.length : Int) by rw [List.getD_eq_getElem?_getD, List.getElem?_append_right (by omega), hl, Nat.sub_self]; rfl]
          refine ⟨by omega, by rw [List.length_append, List.length_singleton]; omega, ?_⟩
          rw [Int.toNat_natCast, List.getD_eq_getElem?_getD, List.getElem?_append_right (Nat.le_refl _), Nat.sub_self]
          rfl)
      rw [getD_app (l := sets) hi] at g4
      rw [List.append_assoc] at g2 g3 g4 g5
      exact ⟨_, row', g1, g2, g3, g4, fun r hE => pre (Ev.pos c (Ev.pos (by omega) (Ev.pos (by omega) (g5 r hE))))⟩
    · have hin1 : 0 ≤ r1 ∧ r1 < sets.length ∧ sets.getD r1.toNat 0 = fI F nx (sets.getD i 0) s := by
        rcases hor with h1 | h1
        · omega
        · exact h1
      obtain ⟨ext, row', g1, g2, g3, g4, g5⟩ := ih (s + 1) sets (row ++ [r1]) (by omega) hi hn hin (by rw [List.length_append, hl]; rfl) (fun t ht => by
        rcases Nat.lt_or_ge t s with h3 | h3
        · obtain ⟨u1, u2, u3⟩ := hr t h3
          rw [getD_app (by omega)]
          exact ⟨u1, u2, u3⟩
        · obtain rfl : t = s := by omega
          rw [show (row ++ [r1]).getD t 0 = r1 by rw [List.getD_eq_getElem?_getD, List.getElem?_append_right (by omega), hl, Nat.sub_self]; rfl]
          exact hin1)
      exact ⟨ext, row', g1, g2, g3, g4, fun r hE => pre (Ev.neg c (Ev.pos (by omega) (g5 r hE)))⟩
theorem stepM_app {next : List (List Int)} {l : List Int} {j : Nat} (h : j < next.length) (s : Int) : stepM (next ++ [l]) j s = stepM next j s := by
  unfold stepM
  rw [Int.toNat_natCast, List.getD_eq_getElem?_getD (l := next ++ [l]), List.getElem?_append_left h, ← List.getD_eq_getElem?_getD]
theorem small_l0 {n k : Int} {nx : List (List Int)} {st f : Int} (h : GoodM n k nx st f) {F : List Int} (al : Alike' n k nx f F) (N K S T : Int) : ∀ (d i : Nat) (sets : List Int) (next : List (List Int)), i + d = 8 → next.length = i → i ≤ sets.length → NamesInv n k F nx sets next →
    ∃ (ext : List Int) (next' : List (List Int)), next'.length = (sets ++ ext).length ∧ NamesInv n k F nx (sets ++ ext) next' ∧ Ev (fun q => least_small.l0 q F sets (i : Int) n k nx st f N K next S T) (((sets ++ ext).length : Int), K, next', S, T, sets ++ ext) := by
  have hk1 := h.k1
  have hn7 := h.n7
  have hn1 := h.n1
  intro d
  induction d with
  | zero =>
    intro i sets next hi hl hle inv
    have := names_len hn7 hn1 inv.nodup inv.inn
    omega
  | succ d ih =>
    intro i sets next hi hl hle inv
    have hsl := names_len hn7 hn1 inv.nodup inv.inn
    by_cases c : i < sets.length
    · obtain ⟨ext, row, g1, g2, g3, g4, g5⟩ := small_l1 h al N K S T next i k.toNat 0 sets [] (by omega) c inv.nodup inv.inn rfl (fun t ht => absurd ht (Nat.not_lt_zero _))
      have inv2 : NamesInv n k F nx (sets ++ ext) (next ++ [row]) := by
        refine ⟨g2, g3, fun l hl2 => ?_, fun j hj s s0 s1 => ?_⟩
        · rcases List.mem_append.1 hl2 with h3 | h3
          · exact inv.row l h3
          · rw [List.mem_singleton] at h3; subst h3; exact g1
        · rw [List.length_append, List.length_singleton] at hj
          obtain ⟨t, rfl⟩ := Int.eq_ofNat_of_zero_le s0
          rcases Nat.lt_or_ge j next.length with h3 | h3
          · obtain ⟨u1, u2, u3⟩ := inv.nxt j h3 t s0 s1
            rw [stepM_app h3, getD_app (l := sets) (by omega)]
            refine ⟨u1, by rw [List.length_append]; omega, ?_⟩
            rw [getD_app (by omega)]
            exact u3
          · obtain rfl : j = i := by omega
            rw [show stepM (next ++ [row]) (j : Nat) (t : Int) = row.getD t 0 by unfold stepM; rw [Int.toNat_natCast, Int.toNat_natCast, List.getD_eq_getElem?_getD (l := next ++ [row]), List.getElem?_append_right (by omega), hl, Nat.sub_self]; rfl, getD_app (l := sets) c]
            exact g4 t s1
      obtain ⟨ext2, next', e1, e2, e3⟩ := ih (i + 1) (sets ++ ext) (next ++ [row]) (by omega) (by rw [List.length_append, hl]; rfl) (by rw [List.length_append]; omega) inv2
      rw [List.append_assoc] at e1 e2 e3
      refine ⟨ext ++ ext2, next', e1, e2, ?_⟩
      refine Ev.step (fun q => by rw [least_small.l0]) ?_
      refine Ev.pos (by omega) ?_
      refine g5 _ (Ev.pos (by omega) ?_)
      rw [w64 (n := (i : Int) + 1) (by omega) (by omega)]
      exact e3
    · refine ⟨[], next, by rw [List.append_nil]; omega, by rw [List.append_nil]; exact inv, ?_⟩
      rw [List.append_nil]
      refine Ev.step (fun q => by rw [least_small.l0]) ?_
      refine Ev.neg (by omega) ?_
      exact Ev.now _
theorem small_spec {n k : Int} {nx : List (List Int)} {st f : Int} (h : GoodM n k nx st f) {F : List Int} (al : Alike' n k nx f F) : ∃ (names : List Int) (next : List (List Int)), next.length = names.length ∧ 0 < names.length ∧ names.getD 0 0 = F.getD st.toNat 0 ∧ NamesInv n k F nx names next ∧ Ev (fun q => least_small.f q n k nx st f F) ((names.length : Int), k, next, 0, 0, names) := by
  have hs0 := h.s0
  have hs1 := h.s1
  have hl := h.len
  have hFl := al.len
  have hr := al.rep st hs0 hs1
  obtain ⟨ext, next, g1, g2, g3⟩ := small_l0 h al 0 k 0 0 8 0 [F.getD st.toNat 0] [] (by omega) rfl (by simp) ⟨by simp, fun x hx => by
    rw [List.mem_singleton] at hx
    subst hx
    omega, fun l hl => absurd hl (by simp), fun j hj => absurd hj (Nat.not_lt_zero _)⟩
  refine ⟨_, next, g1, by simp, by simp, g2, ?_⟩
  refine Ev.congr (fun q => by rw [least_small.f]) ?_
  refine Ev.pos hs0 ?_
  refine Ev.pos (by omega) ?_
  exact g3
theorem Small_l0 {f : Int} (f0 : 0 ≤ f) (f1 : f < 4294967296) (names : List Int) (hl : names.length ≤ 7) (hin : ∀ x ∈ names, 0 ≤ x) (n k : Int) (nx : List (List Int)) (st N K S : Int) (next : List (List Int)) : ∀ (d i : Nat) (T : Nat), i + d = names.length → T < 2 ^ i → (∀ j, T.testBit j = (decide (j < i) && bit f (names.getD j 0))) →
    ∃ T' : Nat, T' < 2 ^ names.length ∧ (∀ j, T'.testBit j = (decide (j < names.length) && bit f (names.getD j 0))) ∧ Ev (fun q => least_Small.l0 q names (names.length : Int) (i : Int) n k nx st f N K next S (T : Int)) (N, K, next, S, (T' : Int)) := by
  intro d
  induction d with
  | zero =>
    intro i T hi hT hb
    obtain rfl : i = names.length := by omega
    exact ⟨T, hT, hb, Ev.step (fun q => by rw [least_Small.l0]) (Ev.neg (by omega) (Ev.now _))⟩
  | succ d ih =>
    intro i T hi hT hb
    have hlt : i < names.length := by omega
    have hx := hin _ (getD_mem (d := (0 : Int)) hlt)
    have hp : 2 ^ i ≤ 128 := pow_le7 (by omega)
    have hp1 : 2 ^ i < 2 ^ (i + 1) := Nat.pow_lt_pow_right (by omega) (by omega)
    have pre : ∀ {r : Int × Int × List (List Int) × Int × Int}, Ev (fun q => least_Small.l0 q names (names.length : Int) ((i + 1 : Nat) : Int) n k nx st f N K next S (Go.bits .or .u32 (T : Int) (shl .u32 (if bit f (names.getD i 0) = true then 1 else 0) (i : Int)))) r →
        Ev (fun q => least_Small.l0 q names (names.length : Int) (i : Int) n k nx st f N K next S (T : Int)) r := by
      intro r hE
      refine Ev.step (fun q => by rw [least_Small.l0]) ?_
      refine Ev.pos (by omega) ?_
      refine Ev.pos (by omega) ?_
      refine Ev.pos (by omega) ?_
      rw [rd_nat]
      refine Ev.pos hx ?_
      rw [w64 (n := (i : Int) + 1) (by omega) (by omega), shr_bit f0 f1 hx]
      exact hE
    by_cases c : bit f (names.getD i 0) = true
    · obtain ⟨T', e1, e2, e3⟩ := ih (i + 1) (T ||| 2 ^ i) (by omega) (Nat.or_lt_two_pow (by omega) hp1) (fun j => by
        rw [Nat.testBit_or, hb j, Nat.testBit_two_pow]
        by_cases e : j = i
        · subst e
          rw [c]; simp
        · rw [show decide (j < i + 1) = decide (j < i) by rw [decide_eq_decide]; omega, show decide (i = j) = false from decide_eq_false (fun h => e h.symm), Bool.or_false])
      refine ⟨T', e1, e2, pre ?_⟩
      rw [if_pos c, or_bit (by omega) (by omega) (by omega), Int.toNat_natCast]
      exact e3
    · obtain ⟨T', e1, e2, e3⟩ := ih (i + 1) T (by omega) (by omega) (fun j => by
        rw [hb j]
        by_cases e : j = i
        · subst e
          rw [Bool.eq_false_iff.2 c]; simp
        · rw [show decide (j < i + 1) = decide (j < i) by rw [decide_eq_decide]; omega])
      refine ⟨T', e1, e2, pre ?_⟩
      rw [if_neg c, or_none (by omega)]
      exact e3
/-- The small machine, and what it says of words. -/
theorem Small_good {n k : Int} {nx : List (List Int)} {st f : Int} (h : GoodM n k nx st f) (f0 : 0 ≤ f) (f1 : f < 4294967296) :
    ∃ (N : Int) (next : List (List Int)) (T : Int), 0 ≤ T ∧ T < 4294967296 ∧ GoodM N k next 0 T ∧ N ≤ n ∧ (∀ w : List Int, (∀ s ∈ w, 0 ≤ s ∧ s < k) → bit T (leads next 0 w) = bit f (leads nx st w)) ∧ Ev (fun q => least_Small.f q n k nx st f) (N, k, next, 0, T) := by
  have hn7 := h.n7
  have hn1 := h.n1
  have hlen := h.len
  obtain ⟨F, al, hF⟩ := alike_good h f0 f1
  obtain ⟨names, next, g1, g2, g3, inv, g5⟩ := small_spec h al
  have hnl := names_len hn7 hn1 inv.nodup inv.inn
  obtain ⟨T, e1, e2, e3⟩ := Small_l0 f0 f1 names (by omega) (fun x hx => (inv.inn x hx).1) n k nx st names.length k 0 next names.length 0 0 (by omega) (by simp) (fun j => by simp)
  have hpF := pow_le7 (m := names.length) (by omega)
  have gm : GoodM names.length k next 0 T := by
    refine ⟨by omega, by omega, h.k1, h.k3, by omega, inv.row, fun l hl x hx => ?_, by omega, by omega, ?_⟩
    · obtain ⟨j, hj, rfl⟩ := List.getElem_of_mem hl
      obtain ⟨t, ht, rfl⟩ := List.getElem_of_mem hx
      have hr := inv.row _ (List.getElem_mem hj)
      have := inv.nxt j hj t (by omega) (by omega)
      have e : stepM next j t = (next[j])[t] := by
        unfold stepM
        rw [Int.toNat_natCast, Int.toNat_natCast, List.getD_eq_getElem?_getD (l := next), List.getElem?_eq_getElem hj, Option.getD_some, List.getD_eq_getElem?_getD, List.getElem?_eq_getElem ht, Option.getD_some]
      rw [e] at this
      exact ⟨this.1, this.2.1⟩
    · rw [Int.toNat_natCast, pow_cast]
      exact Int.ofNat_lt.2 e1
  refine ⟨names.length, next, (T : Int), Int.natCast_nonneg _, by omega, gm, hnl, fun w hw => ?_, ?_⟩
  · have key : ∀ (w : List Int) (j q : Int), (∀ s ∈ w, 0 ≤ s ∧ s < k) → 0 ≤ j → j < names.length → 0 ≤ q → q < n → names.getD j.toNat 0 = F.getD q.toNat 0 → bit T (leads next j w) = bit f (leads nx q w) := by
      intro w
      induction w with
      | nil =>
        intro j q _ j0 j1 q0 q1 e
        show bit T j = bit f q
        rw [bit_nat, e2, decide_eq_true (by omega), Bool.true_and, e]
        exact al.fin q q0 q1
      | cons s w ih =>
        intro j q hw j0 j1 q0 q1 e
        have hs := hw s List.mem_cons_self
        show bit T (leads next (stepM next j s) w) = bit f (leads nx (stepM nx q s) w)
        obtain ⟨J, rfl⟩ := Int.eq_ofNat_of_zero_le j0
        obtain ⟨u1, u2, u3⟩ := inv.nxt J (by omega) s hs.1 hs.2
        have q2 := stepM_in h (a := q) (s := s) ⟨q0, q1⟩ hs
        refine ih _ _ (fun x hx => hw x (List.mem_cons_of_mem _ hx)) u1 u2 q2.1 q2.2 ?_
        rw [Int.toNat_natCast] at e
        rw [u3, e]
        exact al.nxt q s q0 q1 hs.1 hs.2
    exact key w 0 st hw (by omega) (by omega) h.s0 h.s1 g3
  · refine Ev.congr (fun q => by rw [least_Small.f]) ?_
    refine Ev.bind hF ?_
    refine Ev.bind g5 ?_
    exact e3
end Go.Proofs.Ytiiankjmeodjdaa.PEM
