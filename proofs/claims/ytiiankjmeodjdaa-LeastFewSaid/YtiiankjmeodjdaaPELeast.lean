/- Words on package least in plain Lean: what least.Small answers. Conditions: the machine is good. -/
import Derived.Test.YtiiankjmeodjdaaPEMachine
import Derived.Test.YtiiankjmeodjdaaGE11
import Derived.Test.YtiiankjmeodjdaaGE7
import Derived.Test.YtiiankjmeodjdaaGE10
namespace Go.Proofs.Ytiiankjmeodjdaa.PEM
set_option linter.unusedVariables false
set_option linter.unusedSimpArgs false
open Go.RowKit Go.Proofs.Ytiiankjmeodjdaa.GE Go.Proofs.YtiiankjmeodjdaaW.PrintWords Go.Proofs.YtiiankjmeodjdaaW.PrintLast Go.Proofs.YtiiankjmeodjdaaW.PrintMore

theorem rdB_nat (xs : List Bool) (i : Nat) : rdOf false xs (i : Int) = xs.getD i false := rdOf_nat false xs i
theorem index_b (l : List Bool) (x : Bool) (hl : l.length ≤ 1000) (i : Nat) (hi : i < l.length) (hx : l.getD i false = x) : ∀ (d p : Nat), p + d = i →
    ∃ r : Nat, r ≤ i ∧ l.getD r false = x ∧ Ev (fun q => slices_Index_bool_bool.l0 q l x (l.length : Int) (p : Int)) (r : Int) := by
  intro d
  induction d with
  | zero =>
    intro p hp
    obtain rfl : p = i := by omega
    refine ⟨p, Nat.le_refl _, hx, ?_⟩
    refine Ev.step (fun q => by rw [slices_Index_bool_bool.l0]) ?_
    refine Ev.pos (by omega) ?_
    refine Ev.pos (by omega) ?_
    refine Ev.pos (by omega) ?_
    rw [rdB_nat, hx]
    exact Ev.pos (by simp) (Ev.now _)
  | succ d ih =>
    intro p hp
    have pre : ∀ {r : Int}, Ev (fun q => if (x == l.getD p false) = true then some (p : Int) else slices_Index_bool_bool.l0 q l x (l.length : Int) ((p + 1 : Nat) : Int)) r → Ev (fun q => slices_Index_bool_bool.l0 q l x (l.length : Int) (p : Int)) r := by
      intro r hr
      refine Ev.step (fun q => by rw [slices_Index_bool_bool.l0]) ?_
      refine Ev.pos (by omega) ?_
      refine Ev.pos (by omega) ?_
      refine Ev.pos (by omega) ?_
      rw [rdB_nat, w64 (n := (p : Int) + 1) (by omega) (by omega)]
      exact hr
    by_cases c : (x == l.getD p false) = true
    · exact ⟨p, by omega, by simpa using (eq_of_beq c).symm, pre (Ev.pos c (Ev.now _))⟩
    · obtain ⟨r, h1, h2, h3⟩ := ih (p + 1) (by omega)
      exact ⟨r, h1, h2, pre (Ev.neg c h3)⟩
theorem getD_set {α : Type} {l : List α} {i j : Nat} {x d : α} (hi : i < l.length) : (l.set i x).getD j d = if j = i then x else l.getD j d := by
  rw [List.getD_eq_getElem?_getD, List.getElem?_set]
  by_cases c : i = j
  · subst c; simp [hi]
  · rw [if_neg c, if_neg (fun h => c h.symm), List.getD_eq_getElem?_getD]
/-- A partition: of each state one that is no greater, and what it says of states that take. -/
def Part (N : Nat) (fin : Nat → Bool) (F : List Int) : Prop := F.length = N ∧ (∀ i, i < N → 0 ≤ F.getD i 0 ∧ F.getD i 0 ≤ i) ∧ ∀ i j, i < N → j < N → F.getD i 0 = F.getD j 0 → fin i = fin j
/-- Do two states look alike? -/
def Sig (nx : List (List Int)) (k : Int) (F : List Int) (i j : Nat) : Prop := F.getD i 0 = F.getD j 0 ∧ ∀ s : Int, 0 ≤ s → s < k → F.getD (stepM nx i s).toNat 0 = F.getD (stepM nx j s).toNat 0
theorem parts_l4 {n k : Int} {nx : List (List Int)} {st f : Int} (h : GoodM n k nx st f) {F G : List Int} (hF : F.length = nx.length) (hG : G.length = nx.length) {i j : Nat} (hi : i < nx.length) (hj : j < nx.length) (x34 x39 : Int) (n' st' f' : Int) {r : List Int} : ∀ (d s : Nat) (b : Bool), (s : Int) + d = k →
    ((b = true ∧ ∀ t : Int, (s : Int) ≤ t → t < k → F.getD (stepM nx i t).toNat 0 = F.getD (stepM nx j t).toNat 0) → Ev (fun q => least_parts.l2 q F (G.set i (j : Int)) x34 (wrap64 ((i : Int) + 1)) n' k nx st' f') r) →
    (¬ (b = true ∧ ∀ t : Int, (s : Int) ≤ t → t < k → F.getD (stepM nx i t).toNat 0 = F.getD (stepM nx j t).toNat 0) → Ev (fun q => least_parts.l3 q F G (i : Int) x34 (i : Int) x39 (wrap64 ((j : Int) + 1)) n' k nx st' f') r) →
    Ev (fun q => least_parts.l4 q F G (i : Int) (j : Int) b x34 (i : Int) x39 (j : Int) k (s : Int) n' k nx st' f') r := by
  have hk3 := h.k3; have hn7 := h.n7; have hl := h.len
  have ri := h.row _ (getD_mem (d := []) hi)
  have rj := h.row _ (getD_mem (d := []) hj)
  intro d
  induction d with
  | zero =>
    intro s b hs hy hn
    refine Ev.step (fun q => by rw [least_parts.l4]) ?_
    refine Ev.neg (by omega) ?_
    cases b with
    | true =>
      refine Ev.pos rfl ?_
      refine Ev.pos (by omega) ?_
      refine Ev.pos (by omega) ?_
      rw [Int.toNat_natCast]
      exact hy ⟨rfl, fun t h0 h1 => by omega⟩
    | false =>
      refine Ev.neg (by decide) ?_
      exact hn (fun h => absurd h.1 (by decide))
  | succ d ih =>
    intro s b hs hy hn
    cases b with
    | false =>
      refine Ev.step (fun q => by rw [least_parts.l4]) ?_
      refine Ev.pos (by omega) ?_
      refine Ev.neg (by decide) ?_
      rw [w64 (n := (s : Int) + 1) (by omega) (by omega)]
      exact ih (s + 1) false (by omega) (fun h => absurd h.1 (by decide)) (fun _ => hn (fun h => absurd h.1 (by decide)))
    | true =>
      have si := stepM_in h (a := (i : Int)) (s := (s : Int)) ⟨by omega, by omega⟩ ⟨by omega, by omega⟩
      have sj := stepM_in h (a := (j : Int)) (s := (s : Int)) ⟨by omega, by omega⟩ ⟨by omega, by omega⟩
      refine Ev.step (fun q => by rw [least_parts.l4]) ?_
      refine Ev.pos (by omega) ?_
      refine Ev.pos rfl ?_
      refine Ev.pos (by omega) ?_
      refine Ev.pos (by omega) ?_
      refine Ev.pos (by omega) ?_
      rw [rdL_nat, rdL_nat]
      refine Ev.pos (by omega) ?_
      rw [show rd (nx.getD i []) (s : Int) = stepM nx (i : Int) (s : Int) from rfl, show rd (nx.getD j []) (s : Int) = stepM nx (j : Int) (s : Int) from rfl]
      refine Ev.pos si.1 ?_
      refine Ev.pos (by omega) ?_
      refine Ev.pos (by omega) ?_
      refine Ev.pos (by omega) ?_
      refine Ev.pos (by omega) ?_
      refine Ev.pos sj.1 ?_
      refine Ev.pos (by omega) ?_
      rw [w64 (n := (s : Int) + 1) (by omega) (by omega)]
      have e : ∀ t : Int, rd F t = F.getD t.toNat 0 := fun t => rfl
      rw [e, e]
      refine ih (s + 1) _ (by omega) (fun h2 => ?_) (fun h2 => ?_)
      · refine hy ⟨rfl, fun t h0 h1 => ?_⟩
        by_cases c : t = (s : Int)
        · rw [c]; exact eq_of_beq h2.1
        · exact h2.2 t (by omega) h1
      · refine hn (fun h3 => h2 ⟨?_, fun t h0 h1 => h3.2 t (by omega) h1⟩)
        rw [h3.2 s (Int.le_refl _) (by omega)]
        simp
theorem parts_l3 {n k : Int} {nx : List (List Int)} {st f : Int} (h : GoodM n k nx st f) {F G : List Int} (hF : F.length = nx.length) (hG : G.length = nx.length) {i : Nat} (hi : i < nx.length) (x34 : Int) (n' st' f' : Int) : ∀ (d j : Nat), j + d = i →
    ∃ g : Nat, g ≤ i ∧ Sig nx k F i g ∧ ∀ r, Ev (fun q => least_parts.l2 q F (G.set i (g : Int)) x34 (wrap64 ((i : Int) + 1)) n' k nx st' f') r → Ev (fun q => least_parts.l3 q F G (i : Int) x34 (i : Int) ((i + 1 : Nat) : Int) (j : Int) n' k nx st' f') r := by
  have hk1 := h.k1; have hn7 := h.n7; have hl := h.len
  intro d
  induction d with
  | zero =>
    intro j hj
    obtain rfl : j = i := by omega
    refine ⟨j, Nat.le_refl _, ⟨rfl, fun _ _ _ => rfl⟩, fun r hr => ?_⟩
    refine Ev.step (fun q => by rw [least_parts.l3]) ?_
    refine Ev.pos (by omega) ?_
    refine Ev.pos (by omega) ?_
    refine Ev.pos (by omega) ?_
    refine Ev.pos (by omega) ?_
    refine Ev.pos (by omega) ?_
    refine parts_l4 h hF hG hi hi x34 _ n' st' f' k.toNat 0 _ (by omega) (fun _ => hr) (fun hn => absurd ⟨by simp, fun _ _ _ => rfl⟩ hn)
  | succ d ih =>
    intro j hj
    by_cases c : Sig nx k F i j
    · refine ⟨j, by omega, c, fun r hr => ?_⟩
      refine Ev.step (fun q => by rw [least_parts.l3]) ?_
      refine Ev.pos (by omega) ?_
      refine Ev.pos (by omega) ?_
      refine Ev.pos (by omega) ?_
      refine Ev.pos (by omega) ?_
      refine Ev.pos (by omega) ?_
      refine parts_l4 h hF hG hi (by omega) x34 _ n' st' f' k.toNat 0 _ (by omega) (fun _ => hr) (fun hn => absurd ⟨?_, fun t h0 h1 => c.2 t h0 h1⟩ hn)
      rw [rd_nat, rd_nat, c.1]
      simp
    · obtain ⟨g, g1, g2, g3⟩ := ih (j + 1) (by omega)
      refine ⟨g, g1, g2, fun r hr => ?_⟩
      refine Ev.step (fun q => by rw [least_parts.l3]) ?_
      refine Ev.pos (by omega) ?_
      refine Ev.pos (by omega) ?_
      refine Ev.pos (by omega) ?_
      refine Ev.pos (by omega) ?_
      refine Ev.pos (by omega) ?_
      refine parts_l4 h hF hG hi (by omega) x34 _ n' st' f' k.toNat 0 _ (by omega) (fun hy => absurd ⟨?_, fun t h0 h1 => hy.2 t h0 h1⟩ c) (fun _ => ?_)
      · rw [w64 (n := (j : Int) + 1) (by omega) (by omega)]
        exact g3 r hr
      · have := hy.1
        rw [rd_nat, rd_nat] at this
        exact eq_of_beq this
theorem parts_l2 {n k : Int} {nx : List (List Int)} {st f : Int} (h : GoodM n k nx st f) {F : List Int} (hF : F.length = nx.length) (n' st' f' : Int) : ∀ (d i : Nat) (G : List Int), i + d = nx.length → G.length = nx.length → (∀ j, j < i → ∃ g : Nat, G.getD j 0 = g ∧ g ≤ j ∧ Sig nx k F j g) →
    ∃ G' : List Int, G'.length = nx.length ∧ (∀ j, j < nx.length → ∃ g : Nat, G'.getD j 0 = g ∧ g ≤ j ∧ Sig nx k F j g) ∧ ∀ r, Ev (fun q => (slices_Equal_int_int.f q G' F).bind fun t165 => (if t165 = true then (some G') else (least_parts.l1 q G' n' k nx st' f'))) r → Ev (fun q => least_parts.l2 q F G (nx.length : Int) (i : Int) n' k nx st' f') r := by
  have hn7 := h.n7; have hl := h.len
  intro d
  induction d with
  | zero =>
    intro i G hi hG hp
    obtain rfl : i = nx.length := by omega
    refine ⟨G, hG, hp, fun r hr => ?_⟩
    refine Ev.step (fun q => by rw [least_parts.l2]) ?_
    refine Ev.neg (by omega) ?_
    exact hr
  | succ d ih =>
    intro i G hi hG hp
    obtain ⟨g, g1, g2, g3⟩ := parts_l3 h hF hG (i := i) (by omega) (nx.length : Int) n' st' f' i 0 (by omega)
    obtain ⟨G', e1, e2, e3⟩ := ih (i + 1) (G.set i (g : Int)) (by omega) (by rw [List.length_set]; exact hG) (fun j hj => by
      rw [getD_set (by omega)]
      by_cases c : j = i
      · subst c
        rw [if_pos rfl]
        exact ⟨g, rfl, g1, g2⟩
      · rw [if_neg c]
        exact hp j (by omega))
    refine ⟨G', e1, e2, fun r hr => ?_⟩
    refine Ev.step (fun q => by rw [least_parts.l2]) ?_
    refine Ev.pos (by omega) ?_
    have h3 := g3 r (by rw [w64 (n := (i : Int) + 1) (by omega) (by omega)]; exact e3 r hr)
    rw [w64 (n := (i : Int) + 1) (by omega) (by omega)]
    exact h3
theorem equal_loop (a b : List Int) (hl : a.length = b.length) (hb : a.length ≤ 1000) : ∀ (d i : Nat), i + d = a.length → Ev (fun q => slices_Equal_int_int.l0 q a b (a.length : Int) (i : Int)) (decide (a.drop i = b.drop i)) := by
  intro d
  induction d with
  | zero =>
    intro i hi
    rw [List.drop_eq_nil_of_le (by omega), List.drop_eq_nil_of_le (by omega)]
    refine Ev.step (fun q => by rw [slices_Equal_int_int.l0]) ?_
    refine Ev.neg (by omega) ?_
    exact Ev.now _
  | succ d ih =>
    intro i hi
    rw [drop_cons (l := a) (by omega) 0, drop_cons (l := b) (by omega) 0]
    refine Ev.step (fun q => by rw [slices_Equal_int_int.l0]) ?_
    refine Ev.pos (by omega) ?_
    refine Ev.pos (by omega) ?_
    refine Ev.pos (by omega) ?_
    refine Ev.pos (by omega) ?_
    rw [rd_nat, rd_nat, w64 (n := (i : Int) + 1) (by omega) (by omega)]
    by_cases c : a.getD i 0 = b.getD i 0
    · refine Ev.pos c ?_
      have := ih (i + 1) (by omega)
      rw [show decide (a.getD i 0 :: a.drop (i + 1) = b.getD i 0 :: b.drop (i + 1)) = decide (a.drop (i + 1) = b.drop (i + 1)) by rw [decide_eq_decide, c]; simp]
      exact this
    · refine Ev.neg c (Ev.val ?_)
      rw [decide_eq_false (fun h => c (by injection h))]
theorem equal_spec (a b : List Int) (hb : a.length ≤ 1000) : Ev (fun q => slices_Equal_int_int.f q a b) (decide (a = b)) := by
  refine Ev.congr (fun q => by rw [slices_Equal_int_int.f]) ?_
  by_cases c : (a.length : Int) = (b.length : Int)
  · refine Ev.pos c ?_
    have := equal_loop a b (by omega) hb a.length 0 (by omega)
    rw [List.drop_zero, List.drop_zero] at this
    exact this
  · refine Ev.neg c (Ev.val ?_)
    rw [decide_eq_false (fun h => c (by rw [h]))]
theorem sum_lt : ∀ {a b : List Int}, a.length = b.length → (∀ j, j < a.length → a.getD j 0 ≤ b.getD j 0) → a ≠ b → a.sum < b.sum
  | [], [], _, _, hne => absurd rfl hne
  | x :: a, y :: b, hl, hle, hne => by
    have h0 : x ≤ y := hle 0 (by simp)
    have ht : ∀ j, j < a.length → a.getD j 0 ≤ b.getD j 0 := fun j hj => by simpa using hle (j + 1) (by simp; omega)
    rw [List.sum_cons, List.sum_cons]
    by_cases c : a = b
    · subst c
      have : x ≠ y := fun e => hne (by rw [e])
      omega
    · have := sum_lt (by simpa using hl) ht c
      omega
theorem sum_bound {N : Nat} : ∀ {a : List Int}, a.length ≤ N → (∀ j, j < a.length → a.getD j 0 ≤ 7) → a.sum ≤ 7 * N
  | [], _, _ => by simp; omega
  | x :: a, hl, h => by
    have h0 : x ≤ 7 := h 0 (by simp)
    have := sum_bound (N := N - 1) (a := a) (by simp at hl; omega) (fun j hj => by simpa using h (j + 1) (by simp; omega))
    rw [List.sum_cons]
    simp at hl
    omega
theorem parts_l1 {n k : Int} {nx : List (List Int)} {st f : Int} (h : GoodM n k nx st f) (fin : Nat → Bool) (st' f' : Int) : ∀ (d : Nat) (F : List Int), 50 ≤ F.sum + d → Part nx.length fin F →
    ∃ F' : List Int, Part nx.length fin F' ∧ (∀ j, j < nx.length → ∃ g : Nat, F'.getD j 0 = g ∧ g ≤ j ∧ Sig nx k F' j g) ∧ Ev (fun q => least_parts.l1 q F n k nx st' f') F' := by
  have hn1 := h.n1; have hn7 := h.n7; have hl := h.len
  intro d
  induction d with
  | zero =>
    intro F hs hp
    have := sum_bound (N := 7) (a := F) (by rw [hp.1]; omega) (fun j hj => by have := hp.2.1 j (by rw [← hp.1]; exact hj); rw [hp.1] at hj; omega)
    omega
  | succ d ih =>
    intro F hs hp
    obtain ⟨G, e1, e2, e3⟩ := parts_l2 h hp.1 n st' f' nx.length 0 (List.replicate n.toNat 0) (by omega) (by rw [List.length_replicate]; omega) (fun j hj => absurd hj (Nat.not_lt_zero _))
    have pre : ∀ {r : List Int}, Ev (fun q => (slices_Equal_int_int.f q G F).bind fun t165 => (if t165 = true then (some G) else (least_parts.l1 q G n k nx st' f'))) r → Ev (fun q => least_parts.l1 q F n k nx st' f') r := by
      intro r hr
      refine Ev.step (fun q => by rw [least_parts.l1]) ?_
      refine Ev.pos (by omega) ?_
      refine Ev.pos (by omega) ?_
      refine Ev.let_ ?_
      rw [List.length_replicate, show ((n.toNat : Nat) : Int) = (nx.length : Int) by omega]
      exact e3 r hr
    have heq := equal_spec G F (by omega)
    have hpG : Part nx.length fin G := by
      refine ⟨e1, fun i hi => ?_, fun i j hi hj hij => ?_⟩
      · obtain ⟨g, g1, g2, _⟩ := e2 i hi
        rw [g1]; omega
      · obtain ⟨g, g1, g2, g3⟩ := e2 i hi
        obtain ⟨g', g1', g2', g3'⟩ := e2 j hj
        have : g = g' := by rw [g1, g1'] at hij; omega
        subst this
        exact hp.2.2 i j hi hj (g3.1.trans g3'.1.symm)
    by_cases c : G = F
    · subst c
      exact ⟨G, hpG, e2, pre (Ev.bind heq (Ev.pos (by simp) (Ev.now _)))⟩
    · have hlt := sum_lt (a := F) (b := G) (by rw [hp.1, e1]) (fun j hj => by
        rw [hp.1] at hj
        obtain ⟨g, g1, g2, g3⟩ := e2 j hj
        have := hp.2.1 g (by omega)
        rw [g1, g3.1]
        exact this.2) (fun e => c e.symm)
      obtain ⟨F', u1, u2, u3⟩ := ih G (by omega) hpG
      exact ⟨F', u1, u2, pre (Ev.bind heq (Ev.neg (by simp [c]) u3))⟩
theorem parts_l0 {n k : Int} {nx : List (List Int)} {st f : Int} (h : GoodM n k nx st f) (fl : List Bool) (hfl : fl.length = nx.length) (st' f' : Int) : ∀ (d i : Nat) (F : List Int), i + d = nx.length → F.length = nx.length → (∀ j, j < i → ∃ g : Nat, F.getD j 0 = g ∧ g ≤ j ∧ fl.getD g false = fl.getD j false) →
    ∃ F' : List Int, F'.length = nx.length ∧ (∀ j, j < nx.length → ∃ g : Nat, F'.getD j 0 = g ∧ g ≤ j ∧ fl.getD g false = fl.getD j false) ∧ ∀ r, Ev (fun q => least_parts.l1 q F' n k nx st' f') r → Ev (fun q => least_parts.l0 q fl F (nx.length : Int) (i : Int) n k nx st' f') r := by
  have hn7 := h.n7; have hl := h.len
  intro d
  induction d with
  | zero =>
    intro i F hi hF hp
    obtain rfl : i = nx.length := by omega
    refine ⟨F, hF, hp, fun r hr => ?_⟩
    refine Ev.step (fun q => by rw [least_parts.l0]) ?_
    refine Ev.neg (by omega) ?_
    exact hr
  | succ d ih =>
    intro i F hi hF hp
    obtain ⟨g, g1, g2, g3⟩ := index_b fl (fl.getD i false) (by omega) i (by omega) rfl i 0 (by omega)
    obtain ⟨F', e1, e2, e3⟩ := ih (i + 1) (F.set i (g : Int)) (by omega) (by rw [List.length_set]; exact hF) (fun j hj => by
      rw [getD_set (by omega)]
      by_cases c : j = i
      · subst c
        rw [if_pos rfl]
        exact ⟨g, rfl, g1, g2⟩
      · rw [if_neg c]
        exact hp j (by omega))
    refine ⟨F', e1, e2, fun r hr => ?_⟩
    refine Ev.step (fun q => by rw [least_parts.l0]) ?_
    refine Ev.pos (by omega) ?_
    refine Ev.pos (by omega) ?_
    refine Ev.pos (by omega) ?_
    rw [rdB_nat]
    refine Ev.bind (a := (g : Int)) (by refine Ev.congr (fun q => by rw [slices_Index_bool_bool.f]) ?_; exact g3) ?_
    refine Ev.pos (by omega) ?_
    rw [w64 (n := (i : Int) + 1) (by omega) (by omega), Int.toNat_natCast]
    exact e3 r hr
/-- The partition that alike makes. -/
structure Alike' (n k : Int) (nx : List (List Int)) (f : Int) (F : List Int) : Prop where
  len : F.length = nx.length
  rep : ∀ i : Int, 0 ≤ i → i < n → 0 ≤ F.getD i.toNat 0 ∧ F.getD i.toNat 0 ≤ i ∧ F.getD (F.getD i.toNat 0).toNat 0 = F.getD i.toNat 0
  fin : ∀ i : Int, 0 ≤ i → i < n → bit f (F.getD i.toNat 0) = bit f i
  nxt : ∀ i s : Int, 0 ≤ i → i < n → 0 ≤ s → s < k → F.getD (stepM nx (F.getD i.toNat 0) s).toNat 0 = F.getD (stepM nx i s).toNat 0
theorem alike_loop {n k : Int} {nx : List (List Int)} {st f : Int} (h : GoodM n k nx st f) (f0 : 0 ≤ f) (f1 : f < 4294967296) {r : List Int} : ∀ (d i : Nat), i + d = nx.length →
    Ev (fun q => least_parts.f q n k nx st f ((List.range nx.length).map fun j => bit f (j : Nat))) r → Ev (fun q => least_alike.l0 q ((List.range i).map fun j => bit f (j : Nat)) n (i : Int) n k nx st f) r := by
  have hn7 := h.n7; have hl := h.len
  intro d
  induction d with
  | zero =>
    intro i hi hr
    obtain rfl : i = nx.length := by omega
    refine Ev.step (fun q => by rw [least_alike.l0]) ?_
    refine Ev.neg (by omega) ?_
    exact Ev.bind hr (Ev.now _)
  | succ d ih =>
    intro i hi hr
    refine Ev.step (fun q => by rw [least_alike.l0]) ?_
    refine Ev.pos (by omega) ?_
    refine Ev.pos (by omega) ?_
    refine Ev.pos (by rw [List.length_map, List.length_range]; omega) ?_
    rw [shr_bit f0 f1 (by omega), w64 (n := (i : Int) + 1) (by omega) (by omega)]
    have := ih (i + 1) (by omega) hr
    rw [List.range_succ, List.map_append, List.map_singleton] at this
    rw [show ((if bit f (i : Int) = true then (1 : Int) else 0) == 1) = bit f (i : Int) by cases bit f (i : Int) <;> rfl]
    exact this
theorem alike_good {n k : Int} {nx : List (List Int)} {st f : Int} (h : GoodM n k nx st f) (f0 : 0 ≤ f) (f1 : f < 4294967296) : ∃ F, Alike' n k nx f F ∧ Ev (fun q => least_alike.f q n k nx st f) F := by
  have hn1 := h.n1; have hn7 := h.n7; have hl := h.len
  obtain ⟨F0, e1, e2, e3⟩ := parts_l0 h ((List.range nx.length).map fun j => bit f (j : Nat)) (by simp) st f nx.length 0 (List.replicate n.toNat 0) (by omega) (by rw [List.length_replicate]; omega) (fun j hj => absurd hj (Nat.not_lt_zero _))
  have hfl : ∀ j, j < nx.length → ((List.range nx.length).map fun j => bit f (j : Nat)).getD j false = bit f (j : Nat) := fun j hj => by
    rw [List.getD_eq_getElem?_getD, List.getElem?_map, List.getElem?_range hj]; rfl
  have hp0 : Part nx.length (fun j => bit f (j : Nat)) F0 := by
    refine ⟨e1, fun i hi => ?_, fun i j hi hj hij => ?_⟩
    · obtain ⟨g, g1, g2, _⟩ := e2 i hi
      rw [g1]; omega
    · obtain ⟨g, g1, g2, g3⟩ := e2 i hi
      obtain ⟨g', g1', g2', g3'⟩ := e2 j hj
      have : g = g' := by rw [g1, g1'] at hij; omega
      subst this
      rw [hfl i hi, hfl g (by omega)] at g3
      rw [hfl j hj, hfl g (by omega)] at g3'
      exact g3.symm.trans g3'
  have hs0 : 0 ≤ F0.sum := by
    have : ∀ x ∈ F0, 0 ≤ x := fun x hx => by
      obtain ⟨j, hj, rfl⟩ := List.getElem_of_mem hx
      have := (hp0.2.1 j (by omega)).1
      rwa [List.getD_eq_getElem?_getD, List.getElem?_eq_getElem hj, Option.getD_some] at this
    clear e2 e3 hp0 hfl e1
    induction F0 with
    | nil => simp
    | cons x xs ih =>
      rw [List.sum_cons]
      have := this x List.mem_cons_self
      have := ih (fun y hy => by rename_i h2; exact h2 y (List.mem_cons_of_mem _ hy))
      omega
  obtain ⟨F, u1, u2, u3⟩ := parts_l1 h (fun j => bit f (j : Nat)) st f 50 F0 (by omega) hp0
  have hparts : Ev (fun q => least_parts.f q n k nx st f ((List.range nx.length).map fun j => bit f (j : Nat))) F := by
    refine Ev.congr (fun q => by rw [least_parts.f]) ?_
    refine Ev.pos (by omega) ?_
    refine Ev.pos (by omega) ?_
    refine Ev.let_ ?_
    rw [List.length_replicate, show ((n.toNat : Nat) : Int) = (nx.length : Int) by omega]
    exact e3 F u3
  refine ⟨F, ⟨u1.1, ?_, ?_, ?_⟩, ?_⟩
  · intro i i0 i1
    obtain ⟨I, rfl⟩ := Int.eq_ofNat_of_zero_le i0
    obtain ⟨g, g1, g2, g3⟩ := u2 I (by omega)
    rw [Int.toNat_natCast, g1, Int.toNat_natCast, ← g3.1, g1]
    omega
  · intro i i0 i1
    obtain ⟨I, rfl⟩ := Int.eq_ofNat_of_zero_le i0
    obtain ⟨g, g1, g2, g3⟩ := u2 I (by omega)
    rw [Int.toNat_natCast, g1]
    exact u1.2.2 g I (by omega) (by omega) g3.1.symm
  · intro i s i0 i1 s0 s1
    obtain ⟨I, rfl⟩ := Int.eq_ofNat_of_zero_le i0
    obtain ⟨g, g1, g2, g3⟩ := u2 I (by omega)
    rw [Int.toNat_natCast, g1]
    exact (g3.2 s s0 s1).symm
  · refine Ev.congr (fun q => by rw [least_alike.f]) ?_
    exact alike_loop h f0 f1 nx.length 0 (by omega) hparts
end Go.Proofs.Ytiiankjmeodjdaa.PEM
