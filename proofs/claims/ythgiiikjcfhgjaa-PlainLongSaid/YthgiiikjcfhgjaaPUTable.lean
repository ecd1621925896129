/- Words on tables in plain Lean: what table.ends answers. Conditions: the table is one of the grammar and the word. -/
import Derived.Test.YthgiiikjcfhgjaaPUGrammar
import Derived.Test.YthgiiikjcfhgjaaGU4
namespace Go.Proofs.Ythgiiikjcfhgjaa.PUM
set_option linter.unusedVariables false
set_option linter.unusedSimpArgs false
open Go.RowKit Go.Proofs.Ythgiiikjcfhgjaa.GU Go.Proofs.YthgiiikjcfhgjaaW.PrintWords Go.Proofs.YthgiiikjcfhgjaaW.PrintLast Go.Proofs.YthgiiikjcfhgjaaW.PrintMore

theorem rdL_nat (xs : List (List Int)) (i : Nat) : rd_L4 xs (i : Int) = xs.getD i [] := by simp [rd_L4]
/-- A table of n names and m places. -/
structure Tab (n : Int) (m : Nat) (T : List (List Int)) : Prop where
  len : (T.length : Int) = n
  row : ∀ l ∈ T, l.length = m
  ent : ∀ l ∈ T, ∀ e ∈ l, 0 ≤ e ∧ e.toNat < 2 ^ m
/-- An entry. -/
def tb (T : List (List Int)) (x : Int) (i : Nat) : Nat := ((T.getD x.toNat []).getD i 0).toNat
theorem pow_le13 {m : Nat} (h : m ≤ 13) : 2 ^ m ≤ 8192 := Nat.pow_le_pow_right (n := 2) (by omega) h
theorem tb_lt {n : Int} {m : Nat} {T : List (List Int)} (h : Tab n m T) {x : Int} (h0 : 0 ≤ x) (h1 : x < n) {i : Nat} (hi : i < m) : 0 ≤ (T.getD x.toNat []).getD i 0 ∧ (T.getD x.toNat []).getD i 0 = (tb T x i : Nat) ∧ tb T x i < 2 ^ m ∧ (T.getD x.toNat []).length = m := by
  have hl := h.len
  have hm : T.getD x.toNat [] ∈ T := getD_mem (by omega)
  have hr := h.row _ hm
  have he := h.ent _ hm _ (getD_mem (d := (0 : Int)) (i := i) (by omega))
  unfold tb
  exact ⟨he.1, by omega, he.2, hr⟩
def stepB (k : Int) (w : List Int) (T : List (List Int)) (x : Int) (from_ tt i : Nat) : Nat :=
  if from_.testBit i = true then (if k ≤ x then tt ||| tb T (x - k) i else (if i < w.length ∧ w.getD i 0 = x then tt ||| 2 ^ (i + 1) else tt)) else tt
def stepE (k : Int) (w : List Int) (T : List (List Int)) (x : Int) (from_ : Nat) : Nat := (List.range' 0 (w.length + 1)).foldl (stepB k w T x from_) 0
def endsE (k : Int) (w : List Int) (T : List (List Int)) (l : List Int) (from_ : Nat) : Nat := l.foldl (fun f x => stepE k w T x f) from_
theorem stepB_lt {k n : Int} {w : List Int} {T : List (List Int)} (h : Tab n (w.length + 1) T) {x : Int} (hx : 0 ≤ x ∧ x < k + n) {from_ tt i : Nat} (hi : i < w.length + 1) (ht : tt < 2 ^ (w.length + 1)) : stepB k w T x from_ tt i < 2 ^ (w.length + 1) := by
  unfold stepB
  split
  · split
    · exact Nat.or_lt_two_pow ht (tb_lt h (x := x - k) (by omega) (by omega) hi).2.2.1
    · split
      · rename_i h2
        exact Nat.or_lt_two_pow ht (Nat.pow_lt_pow_right (by omega) (by omega))
      · exact ht
  · exact ht
theorem foldB_lt {k n : Int} {w : List Int} {T : List (List Int)} (h : Tab n (w.length + 1) T) {x : Int} (hx : 0 ≤ x ∧ x < k + n) {from_ : Nat} : ∀ (d i tt : Nat), i + d = w.length + 1 → tt < 2 ^ (w.length + 1) → (List.range' i d).foldl (stepB k w T x from_) tt < 2 ^ (w.length + 1)
  | 0, i, tt, _, ht => ht
  | d + 1, i, tt, hi, ht => by
    rw [List.range'_succ, List.foldl_cons]
    exact foldB_lt h hx d (i + 1) _ (by omega) (stepB_lt h hx (by omega) ht)
theorem stepE_lt {k n : Int} {w : List Int} {T : List (List Int)} (h : Tab n (w.length + 1) T) {x : Int} (hx : 0 ≤ x ∧ x < k + n) (from_ : Nat) : stepE k w T x from_ < 2 ^ (w.length + 1) :=
  foldB_lt h hx _ 0 0 (by omega) (Nat.pow_pos (by omega))
theorem ends_l1 {k n s : Int} {rs : List S126} {w : List Int} {T : List (List Int)} (hk : 1 ≤ k) (hk3 : k ≤ 3) (hn : n ≤ 5) (hw : w.length ≤ 12) (h : Tab n (w.length + 1) T) {x : Int} (hx : 0 ≤ x ∧ x < k + n) {from_ : Nat} (hf : from_ < 2 ^ (w.length + 1)) (l : List Int) (L p : Int) {r : Int} : ∀ (d i tt : Nat), i + d = w.length + 1 → tt < 2 ^ (w.length + 1) →
    Ev (fun q => table_spans_ends.l0 q T w (((List.range' i d).foldl (stepB k w T x from_) tt : Nat) : Int) l L (wrap64 (p + 1)) k n s rs) r →
    Ev (fun q => table_spans_ends.l1 q T w (from_ : Int) x (tt : Int) l L p ((w.length + 1 : Nat) : Int) (i : Int) k n s rs) r := by
  have hp := pow_le13 (m := w.length + 1) (by omega)
  intro d
  induction d with
  | zero =>
    intro i tt hi ht hr
    refine Ev.step (fun q => by rw [table_spans_ends.l1]) ?_
    refine Ev.neg (by omega) ?_
    exact hr
  | succ d ih =>
    intro i tt hi ht hr
    rw [List.range'_succ, List.foldl_cons] at hr
    have hlt := stepB_lt h hx (from_ := from_) (tt := tt) (i := i) (by omega) ht
    have hr2 := ih (i + 1) _ (by omega) hlt hr
    refine Ev.step (fun q => by rw [table_spans_ends.l1]) ?_
    refine Ev.pos (by omega) ?_
    refine Ev.pos (by omega) ?_
    rw [shr_bit (by omega) (by omega) (by omega), bit_nat, Int.toNat_natCast, w64 (n := (i : Int) + 1) (by omega) (by omega), w64 (n := x - k) (by omega) (by omega)]
    unfold stepB at hr2
    by_cases c1 : from_.testBit i = true
    · rw [if_pos c1] at hr2 ⊢
      refine Ev.neg (by decide) ?_
      by_cases c2 : x ≥ k
      · rw [if_pos (show k ≤ x from c2)] at hr2
        have ht2 := tb_lt h (x := x - k) (by omega) (by omega) (i := i) (by omega)
        have hl := h.len
        refine Ev.pos c2 ?_
        refine Ev.pos (by omega) ?_
        refine Ev.pos (by omega) ?_
        rw [show rd_L4 T (x - k) = T.getD (x - k).toNat [] from rfl]
        refine Ev.pos (by omega) ?_
        rw [rd_nat, ht2.2.1, u32_or_nat _ _ (by omega) (by omega)]
        exact hr2
      · rw [if_neg (show ¬ k ≤ x from c2)] at hr2
        refine Ev.neg c2 ?_
        by_cases c3 : (i : Int) < (w.length : Int)
        · refine Ev.pos c3 ?_
          rw [rd_nat]
          by_cases c4 : w.getD i 0 = x
          · rw [if_pos ⟨by omega, c4⟩] at hr2
            refine Ev.pos c4 ?_
            refine Ev.pos (by omega) ?_
            rw [or_bit (by omega) (by omega) (by omega), show ((i : Int) + 1).toNat = i + 1 by omega]
            exact hr2
          · rw [if_neg (fun h => c4 h.2)] at hr2
            refine Ev.neg c4 ?_
            exact hr2
        · rw [if_neg (fun h => c3 (by omega))] at hr2
          refine Ev.neg c3 ?_
          exact hr2
    · rw [if_neg c1] at hr2 ⊢
      refine Ev.pos rfl ?_
      exact hr2
theorem ends_l0 {k n s : Int} {rs : List S126} {w : List Int} {T : List (List Int)} (hk : 1 ≤ k) (hk3 : k ≤ 3) (hn : n ≤ 5) (hw : w.length ≤ 12) (h : Tab n (w.length + 1) T) (l : List Int) (hl : l.length ≤ 1000) (hx : ∀ x ∈ l, 0 ≤ x ∧ x < k + n) : ∀ (d p : Nat) (from_ : Nat), p + d = l.length → from_ < 2 ^ (w.length + 1) →
    endsE k w T (l.drop p) from_ < 2 ^ (w.length + 1) ∧ Ev (fun q => table_spans_ends.l0 q T w (from_ : Int) l (l.length : Int) (p : Int) k n s rs) (endsE k w T (l.drop p) from_ : Nat) := by
  intro d
  induction d with
  | zero =>
    intro p from_ hp hf
    rw [List.drop_eq_nil_of_le (by omega)]
    refine ⟨hf, Ev.step (fun q => by rw [table_spans_ends.l0]) ?_⟩
    refine Ev.neg (by omega) ?_
    exact Ev.now _
  | succ d ih =>
    intro p from_ hp hf
    have hlt : p < l.length := by omega
    have hm := hx _ (getD_mem (d := (0 : Int)) hlt)
    rw [drop_cons hlt 0]
    obtain ⟨e1, e2⟩ := ih (p + 1) (stepE k w T (l.getD p 0) from_) (by omega) (stepE_lt h hm from_)
    refine ⟨e1, Ev.step (fun q => by rw [table_spans_ends.l0]) ?_⟩
    refine Ev.pos (by omega) ?_
    refine Ev.pos (by omega) ?_
    refine Ev.pos (by omega) ?_
    rw [rd_nat, w64 (n := (w.length : Int) + 1) (by omega) (by omega)]
    refine ends_l1 (s := s) (rs := rs) hk hk3 hn hw h hm hf l _ (p : Int) (w.length + 1) 0 0 (by omega) (Nat.pow_pos (by omega)) ?_
    rw [w64 (n := (p : Int) + 1) (by omega) (by omega)]
    exact e2
theorem ends_good {k n s : Int} {rs : List S126} {w : List Int} {T : List (List Int)} (hk : 1 ≤ k) (hk3 : k ≤ 3) (hn : n ≤ 5) (hw : w.length ≤ 12) (h : Tab n (w.length + 1) T) (l : List Int) (hl : l.length ≤ 1000) (hx : ∀ x ∈ l, 0 ≤ x ∧ x < k + n) {from_ : Nat} (hf : from_ < 2 ^ (w.length + 1)) :
    endsE k w T l from_ < 2 ^ (w.length + 1) ∧ Ev (fun q => table_spans_ends.f q T k n s rs w l (from_ : Int)) (endsE k w T l from_ : Nat) := by
  have := ends_l0 (s := s) (rs := rs) hk hk3 hn hw h l hl hx l.length 0 from_ (by omega) hf
  rw [List.drop_zero] at this
  refine ⟨this.1, Ev.congr (fun q => by rw [table_spans_ends.f]) ?_⟩
  exact this.2
/-- One sign of a family, and a row of them. -/
def StepR (k : Int) (w : List Int) (R : Int → Nat → Nat → Prop) (x : Int) (i j : Nat) : Prop := i < w.length + 1 ∧ ((k ≤ x ∧ R (x - k) i j) ∨ (x < k ∧ i < w.length ∧ w.getD i 0 = x ∧ j = i + 1))
def ChainR (k : Int) (w : List Int) (R : Int → Nat → Nat → Prop) : List Int → Nat → Nat → Prop
  | [], i, j => i = j
  | x :: l, i, j => ∃ m, StepR k w R x i m ∧ ChainR k w R l m j
theorem StepR.mono {k : Int} {w : List Int} {R R' : Int → Nat → Nat → Prop} (h : ∀ x i j, 0 ≤ x → R x i j → R' x i j) {x : Int} {i j : Nat} (hs : StepR k w R x i j) : StepR k w R' x i j :=
  ⟨hs.1, hs.2.imp (fun h2 => ⟨h2.1, h _ _ _ (by have := h2.1; omega) h2.2⟩) id⟩
theorem ChainR.mono {k : Int} {w : List Int} {R R' : Int → Nat → Nat → Prop} (h : ∀ x i j, 0 ≤ x → R x i j → R' x i j) : ∀ {l : List Int} {i j : Nat}, ChainR k w R l i j → ChainR k w R' l i j
  | [], _, _, hc => hc
  | _ :: _, _, _, ⟨m, hs, hc⟩ => ⟨m, hs.mono h, hc.mono h⟩
def famT (T : List (List Int)) (x : Int) (i j : Nat) : Prop := (tb T x i).testBit j = true
theorem foldB_bit {k : Int} {w : List Int} {T : List (List Int)} {x : Int} {from_ : Nat} (j : Nat) : ∀ (d i tt : Nat), i + d = w.length + 1 → (((List.range' i d).foldl (stepB k w T x from_) tt).testBit j = true ↔ tt.testBit j = true ∨ ∃ a, i ≤ a ∧ from_.testBit a = true ∧ StepR k w (famT T) x a j)
  | 0, i, tt, hi => by
    constructor
    · exact fun h => .inl h
    · rintro (h | ⟨a, h1, _, h2⟩)
      · exact h
      · have := h2.1; omega
  | d + 1, i, tt, hi => by
    rw [List.range'_succ, List.foldl_cons, foldB_bit j d (i + 1) _ (by omega)]
    have e : (stepB k w T x from_ tt i).testBit j = true ↔ tt.testBit j = true ∨ (from_.testBit i = true ∧ StepR k w (famT T) x i j) := by
      unfold stepB StepR famT
      by_cases c1 : from_.testBit i = true
      · rw [if_pos c1]
        by_cases c2 : k ≤ x
        · rw [if_pos c2, Nat.testBit_or, Bool.or_eq_true]
          constructor
          · exact fun h => h.imp id (fun h2 => ⟨c1, by omega, .inl ⟨c2, h2⟩⟩)
          · rintro (h | ⟨_, _, ⟨_, h⟩ | ⟨h, _⟩⟩)
            · exact .inl h
            · exact .inr h
            · omega
        · rw [if_neg c2]
          by_cases c3 : i < w.length ∧ w.getD i 0 = x
          · rw [if_pos c3, Nat.testBit_or, Nat.testBit_two_pow, Bool.or_eq_true, decide_eq_true_iff]
            constructor
            · exact fun h => h.imp id (fun h2 => ⟨c1, by omega, .inr ⟨by omega, c3.1, c3.2, h2.symm⟩⟩)
            · rintro (h | ⟨_, _, ⟨h, _⟩ | ⟨_, _, _, h⟩⟩)
              · exact .inl h
              · exact absurd h c2
              · exact .inr h.symm
          · rw [if_neg c3]
            constructor
            · exact fun h => .inl h
            · rintro (h | ⟨_, _, ⟨h, _⟩ | ⟨_, h1, h2, _⟩⟩)
              · exact h
              · exact absurd h c2
              · exact absurd ⟨h1, h2⟩ c3
      · rw [if_neg c1]
        constructor
        · exact fun h => .inl h
        · rintro (h | ⟨h, _⟩)
          · exact h
          · exact absurd h c1
    rw [e]
    constructor
    · rintro ((h | h) | ⟨a, h1, h2⟩)
      · exact .inl h
      · exact .inr ⟨i, Nat.le_refl _, h⟩
      · exact .inr ⟨a, by omega, h2⟩
    · rintro (h | ⟨a, h1, h2⟩)
      · exact .inl (.inl h)
      · rcases Nat.lt_or_ge i a with h3 | h3
        · exact .inr ⟨a, by omega, h2⟩
        · obtain rfl : a = i := by omega
          exact .inl (.inr h2)
theorem stepE_bit {k : Int} {w : List Int} {T : List (List Int)} {x : Int} {from_ j : Nat} : (stepE k w T x from_).testBit j = true ↔ ∃ a, from_.testBit a = true ∧ StepR k w (famT T) x a j := by
  unfold stepE
  rw [foldB_bit j _ 0 0 (by omega), Nat.zero_testBit]
  constructor
  · rintro (h | ⟨a, _, h⟩)
    · exact absurd h (by decide)
    · exact ⟨a, h⟩
  · rintro ⟨a, h⟩
    exact .inr ⟨a, Nat.zero_le _, h⟩
theorem endsE_bit {k : Int} {w : List Int} {T : List (List Int)} {j : Nat} : ∀ {l : List Int} {from_ : Nat}, (endsE k w T l from_).testBit j = true ↔ ∃ a, from_.testBit a = true ∧ ChainR k w (famT T) l a j
  | [], from_ => by
    show from_.testBit j = true ↔ ∃ a, from_.testBit a = true ∧ a = j
    constructor
    · exact fun h => ⟨j, h, rfl⟩
    · rintro ⟨a, h, rfl⟩
      exact h
  | x :: l, from_ => by
    show (endsE k w T l (stepE k w T x from_)).testBit j = true ↔ ∃ a, from_.testBit a = true ∧ ∃ m, StepR k w (famT T) x a m ∧ ChainR k w (famT T) l m j
    rw [endsE_bit]
    constructor
    · rintro ⟨m, h1, h2⟩
      obtain ⟨a, h3, h4⟩ := stepE_bit.1 h1
      exact ⟨a, h3, m, h4, h2⟩
    · rintro ⟨a, h3, m, h4, h2⟩
      exact ⟨m, stepE_bit.2 ⟨a, h3, h4⟩, h2⟩
theorem endsE_one {k : Int} {w : List Int} {T : List (List Int)} {l : List Int} {i j : Nat} : (endsE k w T l (2 ^ i)).testBit j = true ↔ ChainR k w (famT T) l i j := by
  rw [endsE_bit]
  constructor
  · rintro ⟨a, h, h2⟩
    rw [Nat.testBit_two_pow, decide_eq_true_iff] at h
    exact h ▸ h2
  · intro h
    exact ⟨i, by rw [Nat.testBit_two_pow]; simp, h⟩
end Go.Proofs.Ythgiiikjcfhgjaa.PUM
