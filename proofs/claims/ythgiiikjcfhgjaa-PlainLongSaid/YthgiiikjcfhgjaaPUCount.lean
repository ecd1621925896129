/- Words on package table in plain Lean: what is counted by Sign and Rest is above nought just where the signs make the stretch. Conditions: the grammar is good and proper, the word is good. -/
import Derived.Test.YthgiiikjcfhgjaaPUTakes
import Derived.Test.YthgiiikjcfhgjaaPUChain
import Derived.Test.YthgiiikjcfhgjaaGU10
namespace Go.Proofs.Ythgiiikjcfhgjaa.PUM
set_option linter.unusedVariables false
set_option linter.unusedSimpArgs false
open Go.RowKit Go.Proofs.Ythgiiikjcfhgjaa.GU Go.Proofs.YthgiiikjcfhgjaaW.PrintWords Go.Proofs.YthgiiikjcfhgjaaW.PrintLast Go.Proofs.YthgiiikjcfhgjaaW.PrintMore

theorem rest_eq (q : Nat) (K : Int) (rules : List S126) (ws : List Int) (rule dot fr en : Int) : table_Count.rest (q + 1) K rules ws rule dot fr en = if 0 ≤ rule ∧ rule < (rules.length : Int) ∧ rules.length ≤ 10 ∧ 0 ≤ dot ∧ dot ≤ ((rd_T126 rules rule).f1.length : Int) ∧ (rd_T126 rules rule).f1.length ≤ 4 ∧ 0 ≤ fr ∧ fr ≤ en ∧ en ≤ (ws.length : Int) ∧ ws.length ≤ 12 then
      (if en - fr < ((rd_T126 rules rule).f1.length : Int) - dot ∨ ((rd_T126 rules rule).f1.length : Int) = dot then some (if ((rd_T126 rules rule).f1.length : Int) = dot ∧ fr = en then 1 else 0)
      else (table_Count.restL q K rules ws rule dot fr en (fr + 1) 0).bind fun r => if 0 ≤ r ∧ r ≤ 1099511627777 then some r else none)
    else none := by rw [table_Count.rest]
theorem restL_eq (q : Nat) (K : Int) (rules : List S126) (ws : List Int) (rule dot fr en mid sum : Int) : table_Count.restL (q + 1) K rules ws rule dot fr en mid sum = if mid ≤ en - (((rd_T126 rules rule).f1.length : Int) - dot) + 1 then
      (if ((rd_T126 rules rule).f1.length : Int) - dot = 1 ∧ mid < en then table_Count.restL q K rules ws rule dot fr en (mid + 1) sum
      else (table_Count.rest q K rules ws rule (dot + 1) mid en).bind fun n =>
        if n > 0 then (table_Count.sign q K rules ws (rd (rd_T126 rules rule).f1 dot) fr mid).bind fun s => (table_times.f s n).bind fun t => table_Count.restL q K rules ws rule dot fr en (mid + 1) (mn (wrap64 (sum + t)) 1099511627777)
        else table_Count.restL q K rules ws rule dot fr en (mid + 1) sum)
    else some sum := by rw [table_Count.restL]
theorem sign_eq (q : Nat) (K : Int) (rules : List S126) (ws : List Int) (x fr en : Int) : table_Count.sign (q + 1) K rules ws x fr en = if 0 ≤ fr ∧ fr ≤ en ∧ en ≤ (ws.length : Int) ∧ ws.length ≤ 12 ∧ rules.length ≤ 10 then
      (if x < K then some (if en = fr + 1 ∧ rd ws fr = x then 1 else 0)
      else table_Count.signL q K rules ws x fr en 0 0)
    else none := by rw [table_Count.sign]
theorem signL_eq (q : Nat) (K : Int) (rules : List S126) (ws : List Int) (x fr en i sum : Int) : table_Count.signL (q + 1) K rules ws x fr en i sum = if i < (rules.length : Int) then
      (if (rd_T126 rules i).f0 = wrap64 (x - K) then (table_Count.rest q K rules ws i 0 fr en).bind fun n => table_Count.signL q K rules ws x fr en (i + 1) (wrap64 (sum + n))
      else table_Count.signL q K rules ws x fr en (i + 1) sum)
    else some (mn sum 1099511627777) := by rw [table_Count.signL]
/-- No rule is empty, and none has one name alone. -/
def ProperG (k : Int) (rs : List S126) : Prop := ∀ r ∈ rs, r.f1 ≠ [] ∧ ∀ x, r.f1 = [x] → x < k
theorem step_pos {k : Int} {w : List Int} {x : Int} {i j : Nat} (h : StepR k w (fun _ i j => i < j) x i j) : i < j := by
  rcases h.2 with ⟨_, h⟩ | ⟨_, _, _, h⟩
  · exact h
  · omega
theorem chain_len {k : Int} {w : List Int} : ∀ {l : List Int} {i j : Nat}, ChainR k w (fun _ i j => i < j) l i j → i + l.length ≤ j
  | [], i, j, h => by have h : i = j := h; simp [h]
  | x :: l, i, j, ⟨m, hs, hc⟩ => by
    have h1 := step_pos hs
    have h2 := chain_len hc
    rw [List.length_cons]
    omega
theorem fam_pos {k n : Int} {w : List Int} {rs : List S126} {T : List (List Int)} (F : Filled k n w rs T) (P : ProperG k rs) {x : Int} {i j : Nat} (hx : 0 ≤ x) (h : famT T x i j) : i < j := by
  refine F.sound (fun _ i j => i < j) (fun r hr i j _ hc => ?_) x i j hx h
  have := chain_len hc
  have h2 : 0 < r.f1.length := List.length_pos_iff.2 (P r hr).1
  omega
theorem fam_len {k n : Int} {w : List Int} {rs : List S126} {T : List (List Int)} (F : Filled k n w rs T) (P : ProperG k rs) {l : List Int} {i j : Nat} (h : ChainR k w (famT T) l i j) : i + l.length ≤ j := by
  refine chain_len (h.mono (R' := fun _ i j => i < j) (fun x i j hx hf => fam_pos F P hx hf))
theorem fam_step {k n : Int} {w : List Int} {rs : List S126} {T : List (List Int)} (F : Filled k n w rs T) (P : ProperG k rs) {x : Int} {i j : Nat} (h : StepR k w (famT T) x i j) : i < j :=
  step_pos (h.mono (R' := fun _ i j => i < j) (fun x i j hx hf => fam_pos F P hx hf))
/-- What a name makes is made by one of its rules. -/
theorem fam_rule {k n : Int} {w : List Int} {rs : List S126} {T : List (List Int)} (F : Filled k n w rs T) (hr0 : ∀ r ∈ rs, 0 ≤ r.f0) {x : Int} {i j : Nat} (hx : 0 ≤ x) (h : famT T x i j) : ∃ r ∈ rs, r.f0 = x ∧ ChainR k w (famT T) r.f1 i j ∧ i < w.length + 1 := by
  refine F.sound (fun x i j => ∃ r ∈ rs, r.f0 = x ∧ ChainR k w (famT T) r.f1 i j ∧ i < w.length + 1) (fun r hr i j hi hc => ⟨r, hr, rfl, ?_, hi⟩) x i j hx h
  refine hc.mono (fun y a b hy hb => ?_)
  obtain ⟨r', hr', e, hc', ha⟩ := hb
  rw [← e]
  exact F.closed r' hr' a b ha hc'
def OkS (k : Int) (rs : List S126) (w : List Int) (T : List (List Int)) (x : Int) (i j : Nat) : Prop := ∃ v : Int, Ev (fun q => table_Count.sign q k rs w x (i : Int) (j : Int)) v ∧ 0 ≤ v ∧ v ≤ 1099511627777 ∧ (0 < v ↔ StepR k w (famT T) x i j)
def OkR (k : Int) (rs : List S126) (w : List Int) (T : List (List Int)) (a p i j : Nat) : Prop := ∃ v : Int, Ev (fun q => table_Count.rest q k rs w (a : Int) (p : Int) (i : Int) (j : Int)) v ∧ 0 ≤ v ∧ v ≤ 1099511627777 ∧ (0 < v ↔ ChainR k w (famT T) ((rs.getD a z126).f1.drop p) i j)
theorem times_good {s n : Int} (hs : 0 ≤ s ∧ s ≤ 1099511627777) (hn : 0 < n ∧ n ≤ 1099511627777) : ∃ t, table_times.f s n = some t ∧ 0 ≤ t ∧ t ≤ 1099511627777 ∧ (0 < t ↔ 0 < s) := by
  unfold table_times.f
  by_cases c : s > 0
  · rw [if_pos c, Int.tdiv_eq_ediv_of_nonneg (by decide)]
    have hd0 : 0 ≤ (1099511627777 : Int) / s := Int.ediv_nonneg (by decide) (by omega)
    have hd1 : (1099511627777 : Int) / s ≤ 1099511627777 := Int.ediv_le_self _ (by decide)
    rw [w64 (by omega) (by omega)]
    by_cases c2 : n > (1099511627777 : Int) / s
    · exact ⟨_, if_pos c2, by decide, by decide, by simp [c]⟩
    · have h1 : s * n ≤ 1099511627777 := by
        have h2 : n * s ≤ 1099511627777 := Int.le_trans (Int.mul_le_mul_of_nonneg_right (by omega) (by omega)) (Int.ediv_mul_le _ (by omega))
        rw [Int.mul_comm]
        exact h2
      have h0 : 0 < s * n := Int.mul_pos (by omega) hn.1
      exact ⟨s * n, by rw [if_neg c2, w64 (by omega) (by omega)], by omega, h1, by simp [h0, c]⟩
  · have : s = 0 := by omega
    subst this
    exact ⟨0, by rw [if_neg c, Int.zero_mul, w64 (by decide) (by decide)], by decide, by decide, by simp⟩
theorem mn_good {y : Int} (h0 : 0 ≤ y) : 0 ≤ mn y 1099511627777 ∧ mn y 1099511627777 ≤ 1099511627777 ∧ (0 < mn y 1099511627777 ↔ 0 < y) := by
  unfold mn
  split <;> omega
theorem restL_good {k n s : Int} {w : List Int} {rs : List S126} {T : List (List Int)} (g : GoodG k n s rs) (hw : w.length ≤ 12) {a p i j : Nat} (hl : 0 < ((rs.getD a z126).f1.drop p).length) (hspan : i + ((rs.getD a z126).f1.drop p).length ≤ j) (hj : j ≤ w.length)
    (hS : ∀ m, i < m → m + ((rs.getD a z126).f1.drop p).length ≤ j + 1 → (((rs.getD a z126).f1.drop p).length = 1 → m = j) → OkS k rs w T ((rs.getD a z126).f1.getD p 0) i m)
    (hR : ∀ m, i < m → m ≤ j → OkR k rs w T a (p + 1) m j) : ∀ (d m : Nat) (sum : Int), m + d = j + 2 - ((rs.getD a z126).f1.drop p).length → i < m → 0 ≤ sum → sum ≤ 1099511627777 →
    ∃ v : Int, Ev (fun q => table_Count.restL q k rs w (a : Int) (p : Int) (i : Int) (j : Int) (m : Int) sum) v ∧ 0 ≤ v ∧ v ≤ 1099511627777 ∧ (0 < v ↔ 0 < sum ∨ ∃ m', m ≤ m' ∧ m' + ((rs.getD a z126).f1.drop p).length ≤ j + 1 ∧ StepR k w (famT T) ((rs.getD a z126).f1.getD p 0) i m' ∧ ChainR k w (famT T) ((rs.getD a z126).f1.drop (p + 1)) m' j) := by
  have hlen : ((rs.getD a z126).f1.drop p).length = (rs.getD a z126).f1.length - p := List.length_drop
  have erd : rd_T126 rs (a : Int) = rs.getD a z126 := rdR_nat rs a
  intro d
  induction d with
  | zero =>
    intro m sum hm him s0 s1
    refine ⟨sum, Ev.step (fun q => restL_eq q _ _ _ _ _ _ _ _ _) (Ev.neg (by rw [erd]; omega) (Ev.now _)), s0, s1, ?_⟩
    constructor
    · exact Or.inl
    · rintro (h | ⟨m', h1, h2, _⟩)
      · exact h
      · omega
  | succ d ih =>
    intro m sum hm him s0 s1
    have hdrop1 : ((rs.getD a z126).f1.drop p).length = 1 → (rs.getD a z126).f1.drop (p + 1) = [] := fun h => List.drop_of_length_le (by omega)
    by_cases c : ((rs.getD a z126).f1.drop p).length = 1 ∧ m < j
    · obtain ⟨v, hv, v0, v1, hi⟩ := ih (m + 1) sum (by omega) (by omega) s0 s1
      rw [show ((m + 1 : Nat) : Int) = (m : Int) + 1 by omega] at hv
      refine ⟨v, Ev.step (fun q => restL_eq q _ _ _ _ _ _ _ _ _) (Ev.pos (by clear hi; rw [erd]; omega) (Ev.pos (by clear hi; rw [erd]; omega) hv)), v0, v1, ?_⟩
      rw [hi]
      constructor
      · rintro (h | ⟨m', h1, h2, h3, h4⟩)
        · exact Or.inl h
        · exact Or.inr ⟨m', by omega, h2, h3, h4⟩
      · rintro (h | ⟨m', h1, h2, h3, h4⟩)
        · exact Or.inl h
        · refine Or.inr ⟨m', ?_, h2, h3, h4⟩
          rcases Nat.lt_or_ge m m' with h5 | h5
          · omega
          · exfalso
            have : m' = m := by omega
            subst this
            rw [hdrop1 c.1] at h4
            have h4 : m' = j := h4
            omega
    · obtain ⟨v1, hv1, a0, a1, ai⟩ := hR m him (by omega)
      have pre : ∀ {r : Int}, Ev (fun q => if v1 > 0 then (table_Count.sign q k rs w (rd (rs.getD a z126).f1 (p : Int)) (i : Int) (m : Int)).bind fun s => (table_times.f s v1).bind fun t => table_Count.restL q k rs w (a : Int) (p : Int) (i : Int) (j : Int) ((m : Int) + 1) (mn (wrap64 (sum + t)) 1099511627777) else table_Count.restL q k rs w (a : Int) (p : Int) (i : Int) (j : Int) ((m : Int) + 1) sum) r → Ev (fun q => table_Count.restL q k rs w (a : Int) (p : Int) (i : Int) (j : Int) (m : Int) sum) r := by
        intro r hr
        refine Ev.step (fun q => restL_eq q _ _ _ _ _ _ _ _ _) (Ev.pos (by rw [erd]; omega) (Ev.neg (by rw [erd]; omega) (Ev.bind hv1 ?_)))
        rw [erd]
        exact hr
      by_cases c2 : v1 > 0
      · obtain ⟨v2, hv2, b0, b1, bi⟩ := hS m him (by omega) (fun h => by omega)
        obtain ⟨t, ht, t0, t1, ti⟩ := times_good ⟨b0, b1⟩ ⟨c2, a1⟩
        have hw : wrap64 (sum + t) = sum + t := w64 (by omega) (by omega)
        obtain ⟨n0, n1, ni⟩ := mn_good (y := sum + t) (by omega)
        obtain ⟨v, hv, v0, v1', hi⟩ := ih (m + 1) (mn (sum + t) 1099511627777) (by omega) (by omega) n0 n1
        rw [show ((m + 1 : Nat) : Int) = (m : Int) + 1 by omega] at hv
        refine ⟨v, pre (Ev.pos c2 ?_), v0, v1', ?_⟩
        · rw [rd_nat]
          refine Ev.bind hv2 (Ev.bindc ht ?_)
          rw [hw]
          exact hv
        · rw [hi, ni]
          have hch : ChainR k w (famT T) ((rs.getD a z126).f1.drop (p + 1)) m j := ai.1 c2
          constructor
          · rintro (h | ⟨m', h1, h2, h3, h4⟩)
            · by_cases hs : 0 < sum
              · exact Or.inl hs
              · exact Or.inr ⟨m, Nat.le_refl _, by omega, bi.1 (ti.1 (by omega)), hch⟩
            · exact Or.inr ⟨m', by omega, h2, h3, h4⟩
          · rintro (h | ⟨m', h1, h2, h3, h4⟩)
            · exact Or.inl (by omega)
            · rcases Nat.lt_or_ge m m' with h5 | h5
              · exact Or.inr ⟨m', h5, h2, h3, h4⟩
              · have : m' = m := by omega
                subst this
                have := ti.2 (bi.2 h3)
                exact Or.inl (by omega)
      · obtain ⟨v, hv, v0, v1', hi⟩ := ih (m + 1) sum (by omega) (by omega) s0 s1
        rw [show ((m + 1 : Nat) : Int) = (m : Int) + 1 by omega] at hv
        refine ⟨v, pre (Ev.neg c2 hv), v0, v1', ?_⟩
        rw [hi]
        constructor
        · rintro (h | ⟨m', h1, h2, h3, h4⟩)
          · exact Or.inl h
          · exact Or.inr ⟨m', by omega, h2, h3, h4⟩
        · rintro (h | ⟨m', h1, h2, h3, h4⟩)
          · exact Or.inl h
          · refine Or.inr ⟨m', ?_, h2, h3, h4⟩
            rcases Nat.lt_or_ge m m' with h5 | h5
            · omega
            · exfalso
              have : m' = m := by omega
              subst this
              exact c2 (ai.2 h4)
theorem rest_good {k n s : Int} {w : List Int} {rs : List S126} {T : List (List Int)} (g : GoodG k n s rs) (hw : w.length ≤ 12) (F : Filled k n w rs T) (P : ProperG k rs) {a p i j : Nat} (ha : a < rs.length) (hp : p ≤ (rs.getD a z126).f1.length) (hij : i ≤ j) (hj : j ≤ w.length)
    (hS : ∀ m, i < m → m + ((rs.getD a z126).f1.drop p).length ≤ j + 1 → (((rs.getD a z126).f1.drop p).length = 1 → m = j) → 0 < ((rs.getD a z126).f1.drop p).length → OkS k rs w T ((rs.getD a z126).f1.getD p 0) i m)
    (hR : ∀ m, i < m → m ≤ j → p < (rs.getD a z126).f1.length → OkR k rs w T a (p + 1) m j) : OkR k rs w T a p i j := by
  have hlen : ((rs.getD a z126).f1.drop p).length = (rs.getD a z126).f1.length - p := List.length_drop
  have erd : rd_T126 rs (a : Int) = rs.getD a z126 := rdR_nat rs a
  have hmem : rs.getD a z126 ∈ rs := getD_mem ha
  have hsm := g.small _ hmem
  have hrl := g.len
  have guard : 0 ≤ (a : Int) ∧ (a : Int) < (rs.length : Int) ∧ rs.length ≤ 10 ∧ 0 ≤ (p : Int) ∧ (p : Int) ≤ ((rd_T126 rs (a : Int)).f1.length : Int) ∧ (rd_T126 rs (a : Int)).f1.length ≤ 4 ∧ 0 ≤ (i : Int) ∧ (i : Int) ≤ (j : Int) ∧ (j : Int) ≤ (w.length : Int) ∧ w.length ≤ 12 := by
    rw [erd]
    omega
  by_cases c : (j : Int) - (i : Int) < ((rd_T126 rs (a : Int)).f1.length : Int) - (p : Int) ∨ ((rd_T126 rs (a : Int)).f1.length : Int) = (p : Int)
  · refine ⟨_, Ev.step (fun q => rest_eq q _ _ _ _ _ _ _) (Ev.pos guard (Ev.pos c (Ev.now _))), ?_⟩
    rw [erd] at c ⊢
    by_cases c2 : ((rs.getD a z126).f1.length : Int) = (p : Int) ∧ (i : Int) = (j : Int)
    · rw [if_pos c2]
      refine ⟨by decide, by decide, ?_⟩
      rw [List.drop_of_length_le (by omega)]
      exact ⟨fun _ => (by omega : i = j), fun _ => by decide⟩
    · rw [if_neg c2]
      refine ⟨by decide, by decide, ⟨fun h => absurd h (by decide), fun h => ?_⟩⟩
      have h2 := fam_len F P h
      rw [hlen] at h2
      by_cases c3 : ((rs.getD a z126).f1.length : Int) = (p : Int)
      · rw [List.drop_of_length_le (by omega)] at h
        have h : i = j := h
        omega
      · omega
  · rw [erd] at c
    have hpos : 0 < ((rs.getD a z126).f1.drop p).length := by omega
    obtain ⟨v, hv, v0, v1, hi⟩ := restL_good g hw (T := T) (a := a) (p := p) (i := i) (j := j) hpos (by omega) hj (fun m h1 h2 h3 => hS m h1 h2 h3 hpos) (fun m h1 h2 => hR m h1 h2 (by omega)) (j + 2 - ((rs.getD a z126).f1.drop p).length - (i + 1)) (i + 1) 0 (by omega) (by omega) (by decide) (by decide)
    refine ⟨v, Ev.step (fun q => rest_eq q _ _ _ _ _ _ _) (Ev.pos guard (Ev.neg (by rw [erd]; exact c) (Ev.bind hv ?_))), v0, v1, ?_⟩
    · exact Ev.pos ⟨v0, v1⟩ (Ev.now _)
    · rw [hi]
      have e : (rs.getD a z126).f1.drop p = (rs.getD a z126).f1.getD p 0 :: (rs.getD a z126).f1.drop (p + 1) := drop_cons (by omega) 0
      constructor
      · rintro (h | ⟨m', _, _, h3, h4⟩)
        · exact absurd h (by decide)
        · rw [e]
          exact ⟨m', h3, h4⟩
      · intro h
        have h2 := h
        rw [e] at h2
        obtain ⟨m', h3, h4⟩ := h2
        have h5 := fam_step F P h3
        have h6 := fam_len F P h4
        rw [List.length_drop] at h6
        exact Or.inr ⟨m', by clear hi; omega, by clear hi; omega, h3, h4⟩
theorem signL_good {k n s : Int} {w : List Int} {rs : List S126} {T : List (List Int)} (g : GoodG k n s rs) {x : Int} (hx : k ≤ x ∧ x < k + n) {i j : Nat} (hR : ∀ a, a < rs.length → OkR k rs w T a 0 i j) : ∀ (d a : Nat) (sum : Int), a + d = rs.length → 0 ≤ sum → sum ≤ 1099511627777 * a →
    ∃ v : Int, Ev (fun q => table_Count.signL q k rs w x (i : Int) (j : Int) (a : Int) sum) v ∧ 0 ≤ v ∧ v ≤ 1099511627777 ∧ (0 < v ↔ 0 < sum ∨ ∃ b, a ≤ b ∧ b < rs.length ∧ (rs.getD b z126).f0 = x - k ∧ ChainR k w (famT T) (rs.getD b z126).f1 i j) := by
  have hrl := g.len
  have hk1 := g.k1
  have hk3 := g.k3
  have hn5 := g.n5
  intro d
  induction d with
  | zero =>
    intro a sum ha s0 s1
    obtain ⟨n0, n1, ni⟩ := mn_good (y := sum) s0
    refine ⟨mn sum 1099511627777, Ev.step (fun q => signL_eq q _ _ _ _ _ _ _ _) (Ev.neg (by omega) (Ev.now _)), n0, n1, ?_⟩
    rw [ni]
    constructor
    · exact Or.inl
    · rintro (h | ⟨b, h1, h2, _⟩)
      · exact h
      · omega
  | succ d ih =>
    intro a sum ha s0 s1
    have hlt : a < rs.length := by omega
    have hw1 : wrap64 (x - k) = x - k := w64 (by omega) (by omega)
    by_cases c : (rs.getD a z126).f0 = x - k
    · obtain ⟨v1, hv1, a0, a1, ai⟩ := hR a hlt
      rw [List.drop_zero] at ai
      have hw2 : wrap64 (sum + v1) = sum + v1 := w64 (by omega) (by omega)
      obtain ⟨v, hv, v0, v1', hi⟩ := ih (a + 1) (sum + v1) (by omega) (by omega) (by omega)
      rw [show ((a + 1 : Nat) : Int) = (a : Int) + 1 by omega] at hv
      refine ⟨v, Ev.step (fun q => signL_eq q _ _ _ _ _ _ _ _) (Ev.pos (by omega) (Ev.pos (by rw [rdR_nat, hw1]; exact c) (Ev.bind hv1 ?_))), v0, v1', ?_⟩
      · rw [hw2]
        exact hv
      · rw [hi]
        constructor
        · rintro (h | ⟨b, h1, h2, h3⟩)
          · by_cases hs : 0 < sum
            · exact Or.inl hs
            · exact Or.inr ⟨a, Nat.le_refl _, hlt, c, ai.1 (by omega)⟩
          · exact Or.inr ⟨b, by omega, h2, h3⟩
        · rintro (h | ⟨b, h1, h2, h3, h4⟩)
          · exact Or.inl (by omega)
          · rcases Nat.lt_or_ge a b with h5 | h5
            · exact Or.inr ⟨b, h5, h2, h3, h4⟩
            · have : b = a := by omega
              subst this
              have := ai.2 h4
              exact Or.inl (by omega)
    · obtain ⟨v, hv, v0, v1', hi⟩ := ih (a + 1) sum (by omega) s0 (by omega)
      rw [show ((a + 1 : Nat) : Int) = (a : Int) + 1 by omega] at hv
      refine ⟨v, Ev.step (fun q => signL_eq q _ _ _ _ _ _ _ _) (Ev.pos (by omega) (Ev.neg (by rw [rdR_nat, hw1]; exact c) hv)), v0, v1', ?_⟩
      rw [hi]
      constructor
      · rintro (h | ⟨b, h1, h2, h3⟩)
        · exact Or.inl h
        · exact Or.inr ⟨b, by omega, h2, h3⟩
      · rintro (h | ⟨b, h1, h2, h3, h4⟩)
        · exact Or.inl h
        · refine Or.inr ⟨b, ?_, h2, h3, h4⟩
          rcases Nat.lt_or_ge a b with h5 | h5
          · omega
          · exfalso
            have : b = a := by omega
            subst this
            exact c h3
theorem sign_symbol {k n s : Int} {w : List Int} {rs : List S126} {T : List (List Int)} (g : GoodG k n s rs) (hw : w.length ≤ 12) {x : Int} (hx : x < k) {i j : Nat} (hij : i ≤ j) (hj : j ≤ w.length) : OkS k rs w T x i j := by
  have hrl := g.len
  refine ⟨_, Ev.step (fun q => sign_eq q _ _ _ _ _ _) (Ev.pos (by omega) (Ev.pos hx (Ev.now _))), ?_⟩
  rw [rd_nat]
  by_cases c : (j : Int) = (i : Int) + 1 ∧ w.getD i 0 = x
  · rw [if_pos c]
    refine ⟨by decide, by decide, ⟨fun _ => ⟨by omega, Or.inr ⟨hx, by omega, c.2, by omega⟩⟩, fun _ => by decide⟩⟩
  · rw [if_neg c]
    refine ⟨by decide, by decide, ⟨fun h => absurd h (by decide), fun h => ?_⟩⟩
    rcases h.2 with ⟨h1, _⟩ | ⟨_, h1, h2, h3⟩
    · omega
    · exact absurd ⟨by omega, h2⟩ c
theorem sign_name {k n s : Int} {w : List Int} {rs : List S126} {T : List (List Int)} (g : GoodG k n s rs) (hw : w.length ≤ 12) (F : Filled k n w rs T) {x : Int} (hx : k ≤ x ∧ x < k + n) {i j : Nat} (hij : i ≤ j) (hj : j ≤ w.length) (hR : ∀ a, a < rs.length → OkR k rs w T a 0 i j) : OkS k rs w T x i j := by
  have hrl := g.len
  obtain ⟨v, hv, v0, v1, hi⟩ := signL_good g hx hR rs.length 0 0 (by omega) (by decide) (by decide)
  refine ⟨v, Ev.step (fun q => sign_eq q _ _ _ _ _ _) (Ev.pos (by omega) (Ev.neg (by omega) hv)), v0, v1, ?_⟩
  rw [hi]
  constructor
  · rintro (h | ⟨b, _, h2, h3, h4⟩)
    · exact absurd h (by decide)
    · refine ⟨by omega, Or.inl ⟨hx.1, ?_⟩⟩
      rw [← h3]
      exact F.closed _ (getD_mem h2) i j (by omega) h4
  · intro h
    rcases h.2 with ⟨_, h1⟩ | ⟨h1, _⟩
    · obtain ⟨r, hr, e, hc, _⟩ := fam_rule F (fun r hr => (g.rule r hr).l0) (by omega) h1
      obtain ⟨b, hb, rfl⟩ := List.getElem_of_mem hr
      have eb : rs.getD b z126 = rs[b] := by rw [List.getD_eq_getElem?_getD, List.getElem?_eq_getElem hb, Option.getD_some]
      exact Or.inr ⟨b, Nat.zero_le _, hb, by rw [eb]; exact e, by rw [eb]; exact hc⟩
    · omega
/-- All counts, by the stretch's length. -/
theorem count_all {k n s : Int} {w : List Int} {rs : List S126} {T : List (List Int)} (g : GoodG k n s rs) (hw : w.length ≤ 12) (F : Filled k n w rs T) (P : ProperG k rs) : ∀ (d i j : Nat), j = i + d → j ≤ w.length →
    (∀ a p, a < rs.length → p ≤ (rs.getD a z126).f1.length → OkR k rs w T a p i j) ∧ ∀ x, 0 ≤ x → x < k + n → OkS k rs w T x i j := by
  intro d
  induction d using Nat.strongRecOn with
  | ind d ih =>
    intro i j hj hjw
    have sg : ∀ a, a < rs.length → ∀ p, p < (rs.getD a z126).f1.length → 0 ≤ (rs.getD a z126).f1.getD p 0 ∧ (rs.getD a z126).f1.getD p 0 < k + n := fun a ha p hp => (g.rule _ (getD_mem ha)).sg _ (getD_mem hp)
    have zero : ∀ a, a < rs.length → OkR k rs w T a 0 i j := by
      intro a ha
      refine rest_good g hw F P ha (Nat.zero_le _) (by omega) hjw (fun m h1 h2 h3 h4 => ?_) (fun m h1 h2 h3 => (ih (j - m) (by omega) m j (by omega) hjw).1 a 1 ha h3)
      have hlen : ((rs.getD a z126).f1.drop 0).length = (rs.getD a z126).f1.length := by rw [List.drop_zero]
      by_cases c : (rs.getD a z126).f1.length = 1
      · have hsym : (rs.getD a z126).f1.getD 0 0 < k := by
          refine (P _ (getD_mem (d := z126) ha)).2 _ ?_
          obtain ⟨y, hy⟩ := List.length_eq_one_iff.1 c
          rw [hy]
          rfl
        exact sign_symbol g hw hsym (by omega) (by omega)
      · have hs := sg a ha 0 (by omega)
        exact (ih (m - i) (by omega) i m (by omega) (by omega)).2 _ hs.1 hs.2
    have sign : ∀ x, 0 ≤ x → x < k + n → OkS k rs w T x i j := by
      intro x x0 x1
      by_cases c : x < k
      · exact sign_symbol g hw c (by omega) hjw
      · exact sign_name g hw F ⟨by omega, x1⟩ (by omega) hjw zero
    refine ⟨fun a p ha hp => ?_, sign⟩
    refine rest_good g hw F P ha hp (by omega) hjw (fun m h1 h2 h3 h4 => ?_) (fun m h1 h2 h3 => (ih (j - m) (by omega) m j (by omega) hjw).1 a (p + 1) ha h3)
    have hs := sg a ha p (by rw [List.length_drop] at h4; omega)
    rcases Nat.lt_or_ge m j with h5 | h5
    · exact (ih (m - i) (by omega) i m (by omega) (by omega)).2 _ hs.1 hs.2
    · have : m = j := by omega
      subst this
      exact sign _ hs.1 hs.2
end Go.Proofs.Ythgiiikjcfhgjaa.PUM
