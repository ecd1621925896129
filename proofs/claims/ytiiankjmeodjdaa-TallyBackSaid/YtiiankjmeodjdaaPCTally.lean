/- Words on package tally in plain Lean: how many words lead to a state that takes, which one stands where. Conditions: the machine is good. -/
import Derived.Test.YtiiankjmeodjdaaPCMachine
import Derived.Test.YtiiankjmeodjdaaGC7
import Derived.Test.YtiiankjmeodjdaaGC8
import Derived.Test.YtiiankjmeodjdaaGC9
import Derived.Test.YtiiankjmeodjdaaGC10
namespace Go.Proofs.Ytiiankjmeodjdaa.PCM
set_option linter.unusedVariables false
set_option linter.unusedSimpArgs false
open Go.RowKit Go.Proofs.Ytiiankjmeodjdaa.GC Go.Proofs.YtiiankjmeodjdaaW.PrintWords Go.Proofs.YtiiankjmeodjdaaW.PrintLast Go.Proofs.YtiiankjmeodjdaaW.PrintMore

/-- A state's row of targets. -/
def rowM (nx : List (List Int)) (a : Int) : List Int := nx.getD a.toNat []
/-- How many words of n symbols lead from a state to one that takes. -/
def wy (nx : List (List Int)) (f : Int) : Nat → Int → Int
  | 0, a => if bit f a = true then 1 else 0
  | n + 1, a => ((rowM nx a).map (wy nx f n)).sum
theorem sum_nonneg {l : List Int} (h : ∀ x ∈ l, 0 ≤ x) : 0 ≤ l.sum := by
  induction l with
  | nil => simp
  | cons x xs ih =>
    rw [List.sum_cons]
    have := h x List.mem_cons_self
    have := ih fun y hy => h y (List.mem_cons_of_mem _ hy)
    omega
theorem sum_le {l : List Int} {m : Int} (h : ∀ x ∈ l, x ≤ m) : l.sum ≤ l.length * m := by
  induction l with
  | nil => simp
  | cons x xs ih =>
    rw [List.sum_cons, List.length_cons]
    have h1 := h x List.mem_cons_self
    have h2 := ih fun y hy => h y (List.mem_cons_of_mem _ hy)
    have : ((xs.length + 1 : Nat) : Int) * m = xs.length * m + m := by push_cast; rw [Int.add_mul, Int.one_mul]
    omega
theorem wy_in {n k : Int} {nx : List (List Int)} {st f : Int} (h : GoodM n k nx st f) (f' : Int) : ∀ (m : Nat) (a : Int), 0 ≤ a ∧ a < n → 0 ≤ wy nx f' m a ∧ wy nx f' m a ≤ 3 ^ m
  | 0, a, ha => by unfold wy; split <;> simp
  | m + 1, a, ha => by
    have h1 := h.len
    have hm : rowM nx a ∈ nx := getD_mem (by omega)
    have h2 := h.row _ hm
    have h3 := h.k3
    have ih := fun x hx => wy_in h f' m x (h.tgt _ hm x hx)
    unfold wy
    constructor
    · refine sum_nonneg fun y hy => ?_
      obtain ⟨x, hx, rfl⟩ := List.mem_map.1 hy
      exact (ih x hx).1
    · have h4 : ((rowM nx a).map (wy nx f' m)).sum ≤ ((rowM nx a).map (wy nx f' m)).length * 3 ^ m := sum_le fun y hy => by
        obtain ⟨x, hx, rfl⟩ := List.mem_map.1 hy
        exact (ih x hx).2
      rw [List.length_map] at h4
      have h5 : (0 : Int) ≤ 3 ^ m := Int.pow_nonneg (by omega)
      have h6 : ((rowM nx a).length : Int) * 3 ^ m ≤ 3 * 3 ^ m := Int.mul_le_mul_of_nonneg_right (by omega) h5
      rw [Int.pow_succ, Int.mul_comm]
      omega
theorem three_pow {m : Nat} (h : m ≤ 12) : (3 : Int) ^ m ≤ 531441 := by
  have := Nat.pow_le_pow_right (n := 3) (by omega) h
  have e : ((3 : Int) ^ m) = ((3 ^ m : Nat) : Int) := by simp
  rw [e]
  have h2 : (3 : Nat) ^ 12 = 531441 := by decide
  omega
theorem mapget {α : Type} (g : Nat → α) (n i : Nat) (h : i < n) (d : α) : ((List.range n).map g).getD i d = g i := by
  rw [List.getD_eq_getElem?_getD, List.getElem?_map, List.getElem?_range h]; rfl

/-- The list that ways makes. -/
def waysL (nx : List (List Int)) (f : Int) (N m : Nat) : List Int := (List.range N).map fun i => wy nx f m (i : Nat)
theorem waysL_len (nx : List (List Int)) (f : Int) (N m : Nat) : (waysL nx f N m).length = N := by simp [waysL]
theorem waysL_rd {nx : List (List Int)} {f : Int} {N m : Nat} {a : Int} (h0 : 0 ≤ a) (h1 : a < N) : rd (waysL nx f N m) a = wy nx f m a := by
  obtain ⟨A, rfl⟩ := Int.eq_ofNat_of_zero_le h0
  rw [rd_nat, waysL, mapget _ _ _ (by omega)]
theorem set_take_drop {α : Type} (l : List α) (i : Nat) (x : α) (h : i < l.length) : l.set i x = l.take i ++ x :: l.drop (i + 1) := by
  rw [List.set_eq_take_append_cons_drop, if_pos h]

theorem ways_l3 {nx : List (List Int)} {f : Int} {N m : Nat} (hN : N ≤ 7) (hm : m ≤ 12) (hwy : ∀ a : Int, 0 ≤ a ∧ a < N → 0 ≤ wy nx f m a ∧ wy nx f m a ≤ 3 ^ m) (row : List Int) (hrow : ∀ x ∈ row, 0 ≤ x ∧ x < (N : Int)) (hrl : row.length ≤ 3)
    (x30 x31 x38 : Int) (x37 : List (List Int)) (i : Nat) (x39 n k st f' : Int) (nx' : List (List Int)) {r : List Int} : ∀ (d t : Nat) (x7 : List Int), t + d = row.length → i < x7.length → 0 ≤ x7.getD i 0 → x7.getD i 0 ≤ t * 531441 →
    Ev (fun q => tally_ways.l2 q (waysL nx f N m) (x7.set i (x7.getD i 0 + ((row.drop t).map (wy nx f m)).sum)) x30 x31 x37 x38 (wrap64 (x39 + 1)) n k nx' st f') r →
    Ev (fun q => tally_ways.l3 q (waysL nx f N m) x7 (i : Int) x30 x31 x37 x38 x39 row (row.length : Int) (t : Int) n k nx' st f') r := by
  intro d
  induction d with
  | zero =>
    intro t x7 ht hi h0 h1 h
    refine Ev.step (fun q => by rw [tally_ways.l3]) (Ev.neg (by omega) ?_)
    rw [List.drop_eq_nil_of_le (by omega), List.map_nil, List.sum_nil, Int.add_zero, List.getD_eq_getElem?_getD, List.getElem?_eq_getElem hi, Option.getD_some, List.set_getElem_self] at h
    exact h
  | succ d ih =>
    intro t x7 ht hi h0 h1 h
    have hlt : t < row.length := by omega
    have hx := hrow _ (getD_mem (d := 0) hlt)
    have hw := hwy _ hx
    have h3 := three_pow hm
    refine Ev.step (fun q => by rw [tally_ways.l3]) (Ev.pos (by omega) (Ev.pos (by omega) (Ev.pos (by omega) (Ev.pos (by omega) (Ev.pos (by omega) ?_)))))
    rw [rd_nat, rd_nat]
    refine Ev.pos hx.1 (Ev.pos (by rw [waysL_len]; exact hx.2) ?_)
    rw [waysL_rd hx.1 hx.2, w64 (n := (t : Int) + 1) (by omega) (by omega), Int.toNat_natCast, w64 (by omega) (by omega)]
    refine ih (t + 1) _ (by omega) (by rw [List.length_set]; exact hi) ?_ ?_ ?_
    · rw [List.getD_eq_getElem?_getD, List.getElem?_set_self hi, Option.getD_some]; omega
    · rw [List.getD_eq_getElem?_getD, List.getElem?_set_self hi, Option.getD_some]; omega
    · rw [List.getD_eq_getElem?_getD (l := x7.set i _), List.getElem?_set_self hi, Option.getD_some, List.set_set]
      rw [drop_cons hlt 0, List.map_cons, List.sum_cons, ← Int.add_assoc] at h
      exact h
theorem ways_l2 {n k : Int} {nx : List (List Int)} {st f : Int} (h : GoodM n k nx st f) {m : Nat} (hm : m ≤ 12) (x30 x31 k' st' f' : Int) {r : List Int} : ∀ (d i : Nat), (i : Int) + d = n →
    Ev (fun q => tally_ways.l1 q (waysL nx f n.toNat (m + 1)) x30 (wrap64 (x31 + 1)) n k' nx st' f') r →
    Ev (fun q => tally_ways.l2 q (waysL nx f n.toNat m) ((waysL nx f n.toNat (m + 1)).take i ++ List.replicate d 0) x30 x31 nx (nx.length : Int) (i : Int) n k' nx st' f') r := by
  have a1 := h.len; have a2 := h.n7; have a3 := h.n1; have a4 := h.k3
  intro d
  induction d with
  | zero =>
    intro i hi hr
    refine Ev.step (fun q => by rw [tally_ways.l2]) (Ev.neg (by omega) ?_)
    rw [List.replicate_zero, List.append_nil, List.take_of_length_le (by rw [waysL_len]; omega)]
    exact hr
  | succ d ih =>
    intro i hi hr
    have hlt : i < nx.length := by omega
    have hmem : nx.getD i [] ∈ nx := getD_mem hlt
    have hrl := h.row _ hmem
    have hlen : (waysL nx f n.toNat (m + 1)).length = n.toNat := waysL_len _ _ _ _
    refine Ev.step (fun q => by rw [tally_ways.l2]) (Ev.pos (by omega) (Ev.pos (by omega) (Ev.pos (by omega) ?_)))
    rw [rdL_nat]
    have htl : ((waysL nx f n.toNat (m + 1)).take i).length = i := by rw [List.length_take, hlen]; omega
    have hg : ((waysL nx f n.toNat (m + 1)).take i ++ List.replicate (d + 1) (0 : Int)).getD i 0 = 0 := by
      rw [List.getD_eq_getElem?_getD, List.getElem?_append_right (by omega), htl, Nat.sub_self]; rfl
    refine ways_l3 (N := n.toNat) (by omega) hm (fun a ha => wy_in h f m a (by omega)) _ (fun x hx => by have := h.tgt _ hmem x hx; omega) (by omega) _ _ _ _ _ _ _ _ _ _ _ (nx.getD i []).length 0 _ (by omega) (by rw [List.length_append, htl, List.length_replicate]; omega) (by rw [hg]; exact Int.le_refl _) (by rw [hg]; omega) ?_
    have hn := ih (i + 1) (by omega) hr
    rw [hg, Int.zero_add, List.drop_zero, set_take_drop _ _ _ (by rw [List.length_append, htl, List.length_replicate]; omega)]
    rw [List.take_append_of_le_length (by omega), List.take_of_length_le (by omega), List.drop_append, htl, List.drop_eq_nil_of_le (by omega : ((waysL nx f n.toNat (m + 1)).take i).length ≤ i + 1), List.nil_append, List.drop_replicate, show d + 1 - (i + 1 - i) = d by omega]
    rw [List.take_succ_eq_append_getElem (by rw [hlen]; omega), List.append_assoc] at hn
    have e : (waysL nx f n.toNat (m + 1))[i]'(by rw [hlen]; omega) = ((nx.getD i []).map (wy nx f m)).sum := by
      simp only [waysL, List.getElem_map, List.getElem_range]
      rfl
    rw [e] at hn
    rw [w64 (n := (i : Int) + 1) (by omega) (by omega)]
    exact hn
theorem ways_l1 {n k : Int} {nx : List (List Int)} {st f : Int} (h : GoodM n k nx st f) (m : Nat) (hm : m ≤ 12) (k' st' f' : Int) : ∀ (d t : Nat), t + d = m →
    Ev (fun q => tally_ways.l1 q (waysL nx f n.toNat t) (m : Int) (t : Int) n k' nx st' f') (waysL nx f n.toNat m) := by
  have a1 := h.len; have a2 := h.n7; have a3 := h.n1
  intro d
  induction d with
  | zero =>
    intro t ht
    obtain rfl : t = m := by omega
    exact Ev.step (fun q => by rw [tally_ways.l1]) (Ev.neg (by omega) (Ev.now _))
  | succ d ih =>
    intro t ht
    refine Ev.step (fun q => by rw [tally_ways.l1]) (Ev.pos (by omega) (Ev.pos (by omega) (Ev.pos (by omega) ?_)))
    have h2 := ways_l2 h (m := t) (by omega) (m : Int) (t : Int) k' st' f' (r := waysL nx f n.toNat m) n.toNat 0 (by omega)
    rw [List.take_zero, List.nil_append] at h2
    refine h2 ?_
    rw [w64 (n := (t : Int) + 1) (by omega) (by omega)]
    exact ih (t + 1) (by omega)
theorem ways_l0 {n k : Int} {nx : List (List Int)} {st f : Int} (h : GoodM n k nx st f) (f0 : 0 ≤ f) (f1 : f < 4294967296) (x1 : Int) (k' st' : Int) {r : List Int} : ∀ (d i : Nat), (i : Int) + d = n →
    Ev (fun q => tally_ways.l1 q (waysL nx f n.toNat 0) x1 0 n k' nx st' f) r →
    Ev (fun q => tally_ways.l0 q x1 ((waysL nx f n.toNat 0).take i ++ List.replicate d 0) n (i : Int) n k' nx st' f) r := by
  have a2 := h.n7; have a3 := h.n1
  have hlen : (waysL nx f n.toNat 0).length = n.toNat := waysL_len _ _ _ _
  intro d
  induction d with
  | zero =>
    intro i hi hr
    refine Ev.step (fun q => by rw [tally_ways.l0]) (Ev.neg (by omega) ?_)
    rw [List.replicate_zero, List.append_nil, List.take_of_length_le (by omega)]
    exact hr
  | succ d ih =>
    intro i hi hr
    have htl : ((waysL nx f n.toNat 0).take i).length = i := by rw [List.length_take, hlen]; omega
    have hn := ih (i + 1) (by omega) hr
    refine Ev.step (fun q => by rw [tally_ways.l0]) (Ev.pos (by omega) (Ev.pos (by omega) (Ev.pos (by rw [List.length_append, htl, List.length_replicate]; omega) ?_)))
    rw [Int.toNat_natCast, set_take_drop _ _ _ (by rw [List.length_append, htl, List.length_replicate]; omega)]
    rw [List.take_append_of_le_length (by omega), List.take_of_length_le (by omega), List.drop_append, htl, List.drop_eq_nil_of_le (by omega : ((waysL nx f n.toNat 0).take i).length ≤ i + 1), List.nil_append, List.drop_replicate, show d + 1 - (i + 1 - i) = d by omega]
    rw [List.take_succ_eq_append_getElem (by rw [hlen]; omega), List.append_assoc] at hn
    have e : (waysL nx f n.toNat 0)[i]'(by rw [hlen]; omega) = wrap64 (Go.bits .and .u32 (shr .u32 f (i : Int)) 1) := by
      simp only [waysL, List.getElem_map, List.getElem_range]
      rw [shr_bit f0 f1 (by omega)]
      show (if bit f (i : Int) = true then (1 : Int) else 0) = _
      split <;> exact (w64 (by decide) (by decide)).symm
    rw [e] at hn
    rw [w64 (n := (i : Int) + 1) (by omega) (by omega)]
    exact hn
theorem ways_good {n k : Int} {nx : List (List Int)} {st f : Int} (h : GoodM n k nx st f) (f0 : 0 ≤ f) (f1 : f < 4294967296) (m : Nat) (hm : m ≤ 12) :
    Ev (fun q => tally_ways.f q n k nx st f (m : Int)) (waysL nx f n.toNat m) := by
  have a2 := h.n7; have a3 := h.n1
  refine Ev.congr (fun q => by rw [tally_ways.f]) (Ev.pos (by omega) (Ev.pos (by omega) (Ev.let_ ?_)))
  have h2 := ways_l0 h f0 f1 (m : Int) k st n.toNat 0 (by omega) (ways_l1 h m hm k st f m 0 (by omega))
  rw [List.take_zero, List.nil_append] at h2
  rw [List.length_replicate, show ((n.toNat : Nat) : Int) = n by omega]
  exact h2
theorem wrong_spec {n k : Int} {nx : List (List Int)} {st f : Int} (f0 : 0 ≤ f) (f1 : f < 4294967296) (m : Int) : ∃ e, Ev (fun q => tally_wrong.f q n k nx st f m) e ∧ (e = 0 ↔ GoodM n k nx st f ∧ 0 ≤ m ∧ m ≤ 12) := by
  obtain ⟨e, he, hi⟩ := check_spec (n := n) (k := k) (nx := nx) (s := st) f0 f1
  by_cases c : e = 0
  · by_cases c1 : m < 0
    · exact ⟨1, Ev.congr (fun q => by rw [tally_wrong.f]) (Ev.bind he (Ev.pos c (Ev.pos c1 (Ev.now _)))), fun h => absurd h (by decide), fun h => by omega⟩
    · by_cases c2 : m > 12
      · exact ⟨1, Ev.congr (fun q => by rw [tally_wrong.f]) (Ev.bind he (Ev.pos c (Ev.neg c1 (Ev.pos c2 (Ev.now _))))), fun h => absurd h (by decide), fun h => by omega⟩
      · exact ⟨0, Ev.congr (fun q => by rw [tally_wrong.f]) (Ev.bind he (Ev.pos c (Ev.neg c1 (Ev.neg c2 (Ev.now _))))), fun _ => ⟨hi.1 c, by omega, by omega⟩, fun _ => rfl⟩
  · exact ⟨e, Ev.congr (fun q => by rw [tally_wrong.f]) (Ev.bind he (Ev.neg c (Ev.now _))), fun h => absurd h c, fun h => absurd (hi.2 h.1) c⟩
theorem many_good {n k : Int} {nx : List (List Int)} {st f : Int} (h : GoodM n k nx st f) (f0 : 0 ≤ f) (f1 : f < 4294967296) (m : Nat) (hm : m ≤ 12) :
    Ev (fun q => tally_Many.f q n k nx st f (m : Int)) (wy nx f m st, 0) := by
  have a2 := h.n7; have a3 := h.n1; have a4 := h.s0; have a5 := h.s1
  obtain ⟨e, he, hi⟩ := wrong_spec (n := n) (k := k) (nx := nx) (st := st) f0 f1 (m : Int)
  refine Ev.congr (fun q => by rw [tally_Many.f]) (Ev.bind he (Ev.pos (hi.2 ⟨h, by omega, by omega⟩) (Ev.bind (ways_good h f0 f1 m hm) (Ev.pos a4 ?_))))
  refine Ev.pos (by rw [waysL_len]; omega) (Ev.val ?_)
  rw [waysL_rd a4 (by omega)]
theorem sum_const {u v : Int → Int} {c : Int} : ∀ {l : List Int}, (∀ x ∈ l, u x + v x = c) → (l.map u).sum + (l.map v).sum = c * l.length
  | [], _ => by simp
  | x :: xs, hl => by
    have e1 := hl x List.mem_cons_self
    have e2 := sum_const fun y hy => hl y (List.mem_cons_of_mem _ hy)
    rw [List.map_cons, List.map_cons, List.sum_cons, List.sum_cons, List.length_cons]
    have : c * ((xs.length + 1 : Nat) : Int) = c * xs.length + c := by push_cast; rw [Int.mul_add, Int.mul_one]
    omega
/-- The words of the others' machine: all but those. -/
theorem wy_not {n k : Int} {nx : List (List Int)} {st f g : Int} (h : GoodM n k nx st f) (hg : ∀ i, 0 ≤ i → i < n → bit g i = !bit f i) : ∀ (m : Nat) (a : Int), 0 ≤ a ∧ a < n → wy nx f m a + wy nx g m a = k ^ m
  | 0, a, ha => by
    unfold wy
    rw [hg a ha.1 ha.2]
    cases bit f a <;> simp
  | m + 1, a, ha => by
    have h1 := h.len
    have hm : rowM nx a ∈ nx := getD_mem (by omega)
    have h2 := h.row _ hm
    have ih : ∀ x ∈ rowM nx a, wy nx f m x + wy nx g m x = k ^ m := fun x hx => wy_not h hg m x (h.tgt _ hm x hx)
    unfold wy
    rw [sum_const ih, h2, Int.pow_succ]

/-- A word's place. -/
def rank (nx : List (List Int)) (f : Int) : Int → List Int → Int
  | _, [] => 0
  | a, s :: w => (((rowM nx a).take s.toNat).map (wy nx f w.length)).sum + rank nx f (stepM nx a s) w
theorem take_sum_le {nx : List (List Int)} {g : Int → Int} {l : List Int} (hl : ∀ x ∈ l, 0 ≤ g x) (m : Nat) : ((l.take m).map g).sum ≤ (l.map g).sum := by
  have h1 : (l.map g).sum = ((l.take m).map g).sum + ((l.drop m).map g).sum := by rw [← List.sum_append, ← List.map_append, List.take_append_drop]
  have h2 : 0 ≤ ((l.drop m).map g).sum := sum_nonneg fun y hy => by
    obtain ⟨x, hx, rfl⟩ := List.mem_map.1 hy
    exact hl x (List.mem_of_mem_drop hx)
  omega
theorem rank_in {n k : Int} {nx : List (List Int)} {st f : Int} (h : GoodM n k nx st f) : ∀ (w : List Int) (a : Int), (∀ s ∈ w, 0 ≤ s ∧ s < k) → 0 ≤ a ∧ a < n → bit f (leads nx a w) = true → 0 ≤ rank nx f a w ∧ rank nx f a w < wy nx f w.length a
  | [], a, _, ha, hb => by
    have : wy nx f 0 a = 1 := by unfold wy; exact if_pos hb
    show 0 ≤ (0 : Int) ∧ (0 : Int) < wy nx f 0 a
    omega
  | s :: w, a, hw, ha, hb => by
    have hs := hw s List.mem_cons_self
    have h1 := h.len
    have hm : rowM nx a ∈ nx := getD_mem (by omega)
    have h2 := h.row _ hm
    have hst := stepM_in h ha hs
    have ih := rank_in h w (stepM nx a s) (fun x hx => hw x (List.mem_cons_of_mem _ hx)) hst hb
    have hpos : ∀ x ∈ rowM nx a, 0 ≤ wy nx f w.length x := fun x hx => (wy_in h f w.length x (h.tgt _ hm x hx)).1
    have hlt : s.toNat < (rowM nx a).length := by omega
    have e : (((rowM nx a).take (s.toNat + 1)).map (wy nx f w.length)).sum = (((rowM nx a).take s.toNat).map (wy nx f w.length)).sum + wy nx f w.length (stepM nx a s) := by
      rw [List.take_succ_eq_append_getElem hlt, List.map_append, List.sum_append, List.map_singleton, List.sum_singleton]
      congr 2
      rw [stepM, ← rowM, List.getD_eq_getElem?_getD, List.getElem?_eq_getElem hlt, Option.getD_some]
    have h3 := take_sum_le (nx := nx) hpos (s.toNat + 1)
    have h4 : 0 ≤ (((rowM nx a).take s.toNat).map (wy nx f w.length)).sum := sum_nonneg fun y hy => by
      obtain ⟨x, hx, rfl⟩ := List.mem_map.1 hy
      exact hpos x (List.mem_of_mem_take hx)
    show 0 ≤ _ + rank nx f (stepM nx a s) w ∧ _ + rank nx f (stepM nx a s) w < ((rowM nx a).map (wy nx f w.length)).sum
    omega
theorem word_l1 {n k : Int} {nx : List (List Int)} {st f : Int} (h : GoodM n k nx st f) {m : Nat} (hm : m ≤ 12) (x1 : Int) (acc : List Int) (hacc : acc.length ≤ 12) (a : Int) (ha : 0 ≤ a ∧ a < n) (n' k' st' f' : Int) : ∀ (d s : Nat) (i : Int), (s : Int) + d = k → 0 ≤ i → i < (((rowM nx a).drop s).map (wy nx f m)).sum →
    ∃ (s' : Nat) (i' : Int), s ≤ s' ∧ (s' : Int) < k ∧ 0 ≤ i' ∧ i' < wy nx f m (stepM nx a s') ∧ i = ((((rowM nx a).drop s).take (s' - s)).map (wy nx f m)).sum + i' ∧
      ∀ r, Ev (fun q => tally_Word.l0 q x1 i' (acc ++ [(s' : Int)]) (stepM nx a s') n' k' nx st' f') r → Ev (fun q => tally_Word.l1 q x1 i acc a (waysL nx f n.toNat m) (s : Int) n' k' nx st' f') r := by
  have a1 := h.len; have a2 := h.n7; have a3 := h.k3
  have hmem : rowM nx a ∈ nx := getD_mem (by omega)
  have hrl := h.row _ hmem
  intro d
  induction d with
  | zero =>
    intro s i hs h0 h1
    rw [List.drop_eq_nil_of_le (by omega)] at h1
    simp at h1
    omega
  | succ d ih =>
    intro s i hs h0 h1
    have hlt : s < (rowM nx a).length := by omega
    have hst := stepM_in h (s := (s : Int)) ha ⟨by omega, by omega⟩
    have hw := wy_in h f m _ hst
    have h3 := three_pow hm
    have es : (rowM nx a).getD s 0 = stepM nx a (s : Int) := by rw [stepM, ← rowM, Int.toNat_natCast]
    rw [drop_cons hlt 0, List.map_cons, List.sum_cons, es] at h1
    have pre : ∀ {r : List Int × Int}, Ev (fun q => if i ≥ wy nx f m (stepM nx a (s : Int)) then (tally_Word.l1 q x1 (wrap64 (i - wy nx f m (stepM nx a (s : Int)))) acc a (waysL nx f n.toNat m) (wrap64 ((s : Int) + 1)) n' k' nx st' f') else (if acc.length < 17592186044416 then (tally_Word.l0 q x1 i (acc ++ [(s : Int)]) (stepM nx a (s : Int)) n' k' nx st' f') else none)) r →
        Ev (fun q => tally_Word.l1 q x1 i acc a (waysL nx f n.toNat m) (s : Int) n' k' nx st' f') r := by
      intro r hr
      refine Ev.step (fun q => by rw [tally_Word.l1]) ?_
      refine Ev.pos ha.1 ?_
      refine Ev.pos (by omega) ?_
      refine Ev.pos (by omega) ?_
      have e1 : rd_L1 nx a = rowM nx a := rfl
      have e2 : rd (rowM nx a) (s : Int) = stepM nx a (s : Int) := rfl
      rw [e1, e2]
      refine Ev.pos (by omega) ?_
      refine Ev.pos hst.1 ?_
      refine Ev.pos (by rw [waysL_len]; omega) ?_
      rw [waysL_rd hst.1 (by omega)]
      exact hr
    by_cases c : i ≥ wy nx f m (stepM nx a (s : Int))
    · have hb : i ≤ 3000000 := by
        have : (((rowM nx a).drop (s + 1)).map (wy nx f m)).sum ≤ (((rowM nx a).drop (s + 1)).map (wy nx f m)).length * 3 ^ m := sum_le fun y hy => by
          obtain ⟨x, hx, rfl⟩ := List.mem_map.1 hy
          exact (wy_in h f m x (h.tgt _ hmem x (List.mem_of_mem_drop hx))).2
        rw [List.length_map] at this
        have h5 : (0 : Int) ≤ 3 ^ m := Int.pow_nonneg (by omega)
        have h6 : (((rowM nx a).drop (s + 1)).length : Int) * 3 ^ m ≤ 3 * 3 ^ m := Int.mul_le_mul_of_nonneg_right (by rw [List.length_drop]; omega) h5
        omega
      obtain ⟨s', i', g1, g2, g3, g4, g5, g6⟩ := ih (s + 1) (i - wy nx f m (stepM nx a (s : Int))) (by omega) (by omega) (by omega)
      refine ⟨s', i', by omega, g2, g3, g4, ?_, fun r hr => ?_⟩
      · rw [drop_cons hlt 0, es, show s' - s = (s' - (s + 1)) + 1 by omega, List.take_succ_cons, List.map_cons, List.sum_cons]
        omega
      · refine pre (Ev.pos c ?_)
        rw [w64 (n := i - _) (by omega) (by omega), w64 (n := (s : Int) + 1) (by omega) (by omega)]
        exact g6 r hr
    · refine ⟨s, i, Nat.le_refl _, by omega, h0, by omega, by simp, fun r hr => pre (Ev.neg c (Ev.pos (by omega) hr))⟩
theorem word_l0 {n k : Int} {nx : List (List Int)} {st f : Int} (h : GoodM n k nx st f) (f0 : 0 ≤ f) (f1 : f < 4294967296) (N : Nat) (hN : N ≤ 12) : ∀ (m : Nat) (acc : List Int) (a i : Int), acc.length + m = N → 0 ≤ a ∧ a < n → 0 ≤ i → i < wy nx f m a →
    ∃ w : List Int, w.length = m ∧ (∀ s ∈ w, 0 ≤ s ∧ s < k) ∧ bit f (leads nx a w) = true ∧ rank nx f a w = i ∧ Ev (fun q => tally_Word.l0 q (N : Int) i acc a n k nx st f) (acc ++ w, 0) := by
  intro m
  induction m with
  | zero =>
    intro acc a i hl ha h0 h1
    have hb : bit f a = true := by
      unfold wy at h1
      by_cases c : bit f a = true
      · exact c
      · rw [if_neg c] at h1; omega
    refine ⟨[], rfl, (fun s hs => by cases hs), hb, ?_, ?_⟩
    · unfold wy at h1
      rw [if_pos hb] at h1
      show (0 : Int) = i
      omega
    · rw [List.append_nil]
      exact Ev.step (fun q => by rw [tally_Word.l0]) (Ev.neg (by omega) (Ev.now _))
  | succ m ih =>
    intro acc a i hl ha h0 h1
    obtain ⟨s', i', g1, g2, g3, g4, g5, g6⟩ := word_l1 h (m := m) (by omega) (N : Int) acc (by omega) a ha n k st f k.toNat 0 i (by have := h.k1; omega) h0 (by rw [List.drop_zero]; exact h1)
    have hst := stepM_in h (s := (s' : Int)) ha ⟨by omega, g2⟩
    obtain ⟨w, e1, e2, e3, e4, e5⟩ := ih (acc ++ [(s' : Int)]) (stepM nx a s') i' (by rw [List.length_append, List.length_singleton]; omega) hst g3 g4
    refine ⟨(s' : Int) :: w, by simp [e1], fun x hx => ?_, e3, ?_, ?_⟩
    · rcases List.mem_cons.1 hx with rfl | hx
      · exact ⟨by omega, g2⟩
      · exact e2 x hx
    · show (((rowM nx a).take (s' : Int).toNat).map (wy nx f w.length)).sum + rank nx f (stepM nx a s') w = i
      rw [Int.toNat_natCast, e1, e4, g5, List.drop_zero, Nat.sub_zero]
    · rw [List.append_assoc] at e5
      have hw := ways_good h f0 f1 m (by omega)
      refine Ev.step (fun q => by rw [tally_Word.l0]) (Ev.pos (by omega) ?_)
      rw [w64 (n := (N : Int) - 1) (by omega) (by omega), w64 (by omega) (by omega), show (N : Int) - 1 - (acc.length : Int) = (m : Int) by omega]
      exact Ev.bind hw (g6 _ e5)
theorem word_good {n k : Int} {nx : List (List Int)} {st f : Int} (h : GoodM n k nx st f) (f0 : 0 ≤ f) (f1 : f < 4294967296) (m : Nat) (hm : m ≤ 12) (i : Int) :
    (0 ≤ i ∧ i < wy nx f m st → ∃ w : List Int, w.length = m ∧ (∀ s ∈ w, 0 ≤ s ∧ s < k) ∧ bit f (leads nx st w) = true ∧ rank nx f st w = i ∧ Ev (fun q => tally_Word.f q n k nx st f (m : Int) i) (w, 0)) ∧
    (¬ (0 ≤ i ∧ i < wy nx f m st) → Ev (fun q => tally_Word.f q n k nx st f (m : Int) i) ([], 5)) := by
  have a2 := h.n7; have a3 := h.n1; have a4 := h.s0; have a5 := h.s1
  obtain ⟨e, he, hi⟩ := wrong_spec (n := n) (k := k) (nx := nx) (st := st) f0 f1 (m : Int)
  have e0 := hi.2 ⟨h, by omega, by omega⟩
  have hw := ways_good h f0 f1 m hm
  have end_ : Ev (fun q => tally_Word.j0 q (m : Int) i true n k nx st f) ([], 5) := Ev.step (fun q => by rw [tally_Word.j0]) (Ev.pos rfl (Ev.now _))
  constructor
  · intro hb
    obtain ⟨w, g1, g2, g3, g4, g5⟩ := word_l0 h f0 f1 m hm m [] st i (by simp) ⟨a4, a5⟩ hb.1 hb.2
    refine ⟨w, g1, g2, g3, g4, Ev.congr (fun q => by rw [tally_Word.f]) (Ev.bind he (Ev.pos e0 ?_))⟩
    refine Ev.neg (by omega) ?_
    refine Ev.bind hw ?_
    refine Ev.pos a4 ?_
    refine Ev.pos (by rw [waysL_len]; omega) ?_
    rw [waysL_rd a4 (by omega), decide_eq_false (by omega)]
    exact Ev.step (fun q => by rw [tally_Word.j0]) (Ev.neg (by decide) g5)
  · intro hb
    refine Ev.congr (fun q => by rw [tally_Word.f]) (Ev.bind he (Ev.pos e0 ?_))
    by_cases c : i < 0
    · exact Ev.pos c end_
    · refine Ev.neg c (Ev.bind hw (Ev.pos a4 ?_))
      refine Ev.pos (by rw [waysL_len]; omega) ?_
      rw [waysL_rd a4 (by omega), decide_eq_true (by omega)]
      exact end_
theorem place_l1 {n k : Int} {nx : List (List Int)} {st f : Int} (h : GoodM n k nx st f) {m : Nat} (hm : m ≤ 12) (x1 : List Int) (a : Int) (ha : 0 ≤ a ∧ a < n) (S : Nat) (hS : (S : Int) < k) (x27 : List Int) (x28 x29 n' k' st' f' : Int) {r : Int × Int} : ∀ (d s : Nat) (sum : Int), s + d = S → 0 ≤ sum → sum ≤ 100000000 + (s : Int) * 531441 →
    Ev (fun q => tally_Place.l0 q x1 (sum + ((((rowM nx a).take S).drop s).map (wy nx f m)).sum) (stepM nx a S) x27 x28 (wrap64 (x29 + 1)) n' k' nx st' f') r →
    Ev (fun q => tally_Place.l1 q x1 sum a (S : Int) (waysL nx f n.toNat m) x27 x28 x29 (S : Int) (s : Int) n' k' nx st' f') r := by
  have a1 := h.len; have a2 := h.n7; have a3 := h.k3
  have hmem : rowM nx a ∈ nx := getD_mem (by omega)
  have hrl := h.row _ hmem
  have e1 : rd_L1 nx a = rowM nx a := rfl
  intro d
  induction d with
  | zero =>
    intro s sum hs h0 h1 hr
    obtain rfl : s = S := by omega
    refine Ev.step (fun q => by rw [tally_Place.l1]) ?_
    refine Ev.neg (by omega) ?_
    refine Ev.pos ha.1 ?_
    refine Ev.pos (by omega) ?_
    refine Ev.pos (by omega) ?_
    rw [e1, show rd (rowM nx a) (s : Int) = stepM nx a (s : Int) from rfl]
    refine Ev.pos (by omega) ?_
    rw [List.drop_eq_nil_of_le (by rw [List.length_take]; omega)] at hr
    simpa using hr
  | succ d ih =>
    intro s sum hs h0 h1 hr
    have hst := stepM_in h (s := (s : Int)) ha ⟨by omega, by omega⟩
    have hw := wy_in h f m _ hst
    have h3 := three_pow hm
    refine Ev.step (fun q => by rw [tally_Place.l1]) ?_
    refine Ev.pos (by omega) ?_
    refine Ev.pos ha.1 ?_
    refine Ev.pos (by omega) ?_
    refine Ev.pos (by omega) ?_
    rw [e1, show rd (rowM nx a) (s : Int) = stepM nx a (s : Int) from rfl]
    refine Ev.pos (by omega) ?_
    refine Ev.pos hst.1 ?_
    refine Ev.pos (by rw [waysL_len]; omega) ?_
    rw [waysL_rd hst.1 (by omega), w64 (n := (s : Int) + 1) (by omega) (by omega), w64 (by omega) (by omega)]
    refine ih (s + 1) _ (by omega) (by omega) (by omega) ?_
    rw [drop_cons (i := s) (by rw [List.length_take]; omega) 0, List.map_cons, List.sum_cons, ← Int.add_assoc] at hr
    rw [show ((rowM nx a).take S).getD s 0 = stepM nx a (s : Int) by rw [List.getD_eq_getElem?_getD, List.getElem?_take, if_pos (by omega), stepM, ← rowM, List.getD_eq_getElem?_getD, Int.toNat_natCast]] at hr
    exact hr
theorem place_l0 {n k : Int} {nx : List (List Int)} {st f : Int} (h : GoodM n k nx st f) (f0 : 0 ≤ f) (f1 : f < 4294967296) (w : List Int) (hw : GoodW k w) : ∀ (d i : Nat) (a sum : Int), i + d = w.length → 0 ≤ a ∧ a < n → 0 ≤ sum → sum ≤ (i : Int) * 2000000 →
    Ev (fun q => tally_Place.l0 q w sum a w (w.length : Int) (i : Int) n k nx st f) (sum + rank nx f a (w.drop i), 0) := by
  have hwl := hw.1
  intro d
  induction d with
  | zero =>
    intro i a sum hi ha h0 h1
    rw [List.drop_eq_nil_of_le (by omega)]
    refine Ev.step (fun q => by rw [tally_Place.l0]) (Ev.neg (by omega) (Ev.val ?_))
    show _ = some (sum + 0, 0)
    rw [Int.add_zero]
  | succ d ih =>
    intro i a sum hi ha h0 h1
    have hlt : i < w.length := by omega
    have hs := hw.2 _ (getD_mem (d := 0) hlt)
    obtain ⟨S, hS⟩ := Int.eq_ofNat_of_zero_le hs.1
    have hk3 := h.k3
    have hst := stepM_in h (s := (S : Int)) ha (by rw [← hS]; exact hs)
    have hmem : rowM nx a ∈ nx := getD_mem (by have := h.len; omega)
    refine Ev.step (fun q => by rw [tally_Place.l0]) ?_
    refine Ev.pos (by omega) ?_
    refine Ev.pos (by omega) ?_
    refine Ev.pos (by omega) ?_
    rw [rd_nat, w64 (n := (w.length : Int) - 1) (by omega) (by omega), w64 (by omega) (by omega), show (w.length : Int) - 1 - (i : Int) = (d : Int) by omega, hS]
    refine Ev.bind (ways_good h f0 f1 d (by omega)) ?_
    have hsum : 0 ≤ (((rowM nx a).take S).map (wy nx f d)).sum ∧ (((rowM nx a).take S).map (wy nx f d)).sum ≤ 2000000 := by
      have hb := fun x (hx : x ∈ (rowM nx a).take S) => wy_in h f d x (h.tgt _ hmem x (List.mem_of_mem_take hx))
      constructor
      · refine sum_nonneg fun y hy => ?_
        obtain ⟨x, hx, rfl⟩ := List.mem_map.1 hy
        exact (hb x hx).1
      · have h4 : (((rowM nx a).take S).map (wy nx f d)).sum ≤ (((rowM nx a).take S).map (wy nx f d)).length * 3 ^ d := sum_le fun y hy => by
          obtain ⟨x, hx, rfl⟩ := List.mem_map.1 hy
          exact (hb x hx).2
        rw [List.length_map] at h4
        have h5 : (0 : Int) ≤ 3 ^ d := Int.pow_nonneg (by omega)
        have h6 : (((rowM nx a).take S).length : Int) * 3 ^ d ≤ 3 * 3 ^ d := Int.mul_le_mul_of_nonneg_right (by rw [List.length_take]; omega) h5
        have := three_pow (show d ≤ 12 by omega)
        omega
    refine place_l1 h (m := d) (by omega) w a ha S (by omega) w (w.length : Int) (i : Int) n k st f S 0 sum (by omega) h0 (by omega) ?_
    rw [List.drop_zero, w64 (n := (i : Int) + 1) (by omega) (by omega), drop_cons hlt 0, hS]
    have hn := ih (i + 1) (stepM nx a S) (sum + (((rowM nx a).take S).map (wy nx f d)).sum) (by omega) hst (by omega) (by push_cast; omega)
    have er : rank nx f a ((S : Int) :: w.drop (i + 1)) = (((rowM nx a).take S).map (wy nx f d)).sum + rank nx f (stepM nx a S) (w.drop (i + 1)) := by
      show (((rowM nx a).take (S : Int).toNat).map (wy nx f (w.drop (i + 1)).length)).sum + _ = _
      rw [Int.toNat_natCast, List.length_drop, show w.length - (i + 1) = d by omega]
    rw [er, ← Int.add_assoc]
    exact hn
theorem place_good {n k : Int} {nx : List (List Int)} {st f : Int} (h : GoodM n k nx st f) (f0 : 0 ≤ f) (f1 : f < 4294967296) (w : List Int) (hw : GoodW k w) :
    Ev (fun q => tally_Place.f q n k nx st f w) (rank nx f st w, 0) := by
  have hr := run_good h f0 f1 w hw
  have hp := place_l0 h f0 f1 w hw w.length 0 st 0 (by omega) ⟨h.s0, h.s1⟩ (by omega) (by omega)
  rw [List.drop_zero, Int.zero_add] at hp
  exact Ev.congr (fun q => by rw [tally_Place.f]) (Ev.bind hr (Ev.pos rfl hp))
end Go.Proofs.Ytiiankjmeodjdaa.PCM
