/- Words on grammars in plain Lean: what grammar.Least and grammar.Comes answer, and that more rules make no fewer names. Conditions: the grammar is good. -/
import Derived.Test.YtnkackiocigdoaaPAGrammar
import Derived.Test.YtnkackiocigdoaaGA3
import Derived.Test.YtnkackiocigdoaaGA5
namespace Go.Proofs.Ytnkackiocigdoaa.PAM
set_option linter.unusedVariables false
set_option linter.unusedSimpArgs false
open Go.RowKit Go.Proofs.Ytnkackiocigdoaa.GA Go.Proofs.YtnkackiocigdoaaW.PrintWords Go.Proofs.YtnkackiocigdoaaW.PrintLast Go.Proofs.YtnkackiocigdoaaW.PrintMore

/-- Is a sign bad, beside a set? -/
def badX (k : Int) (sy : Bool) (S : Nat) (x : Int) : Bool := (decide (x < k) && !sy) || (decide (k ≤ x) && !S.testBit (x - k).toNat)
def leastF (k : Int) (sy : Bool) (S : Nat) (r : S27) : Nat := if r.f1.any (badX k sy S) = true then S else S ||| 2 ^ r.f0.toNat
def leastR (k : Int) (sy : Bool) (rs : List S27) (S : Nat) : Nat := rs.foldl (leastF k sy) S
def leastN (k : Int) (sy : Bool) (rs : List S27) : Nat → Nat → Nat
  | 0, S => S
  | d + 1, S => leastN k sy rs d (leastR k sy rs S)
theorem ors_lt {n : Int} {t : Int} (h0 : 0 ≤ t) (h1 : t < n) {S : Nat} (hS : S < 2 ^ n.toNat) : S ||| 2 ^ t.toNat < 2 ^ n.toNat :=
  Nat.or_lt_two_pow hS (Nat.pow_lt_pow_right (by omega) (by omega))
theorem leastF_lt {k n : Int} {sy : Bool} {r : S27} (h : GoodR k n r) {S : Nat} (hS : S < 2 ^ n.toNat) : leastF k sy S r < 2 ^ n.toNat := by
  unfold leastF
  split
  · exact hS
  · exact ors_lt h.l0 h.l1 hS
theorem leastR_lt {k n : Int} {sy : Bool} : ∀ {rs : List S27}, (∀ r ∈ rs, GoodR k n r) → ∀ {S : Nat}, S < 2 ^ n.toNat → leastR k sy rs S < 2 ^ n.toNat
  | [], _, S, hS => hS
  | r :: rs, h, S, hS => leastR_lt (rs := rs) (fun x hx => h x (List.mem_cons_of_mem _ hx)) (leastF_lt (h r List.mem_cons_self) hS)
theorem leastN_lt {k n : Int} {sy : Bool} {rs : List S27} (h : ∀ r ∈ rs, GoodR k n r) : ∀ (d : Nat) {S : Nat}, S < 2 ^ n.toNat → leastN k sy rs d S < 2 ^ n.toNat
  | 0, S, hS => hS
  | d + 1, S, hS => leastN_lt h d (leastR_lt h hS)
theorem any_bad {k n : Int} (hk : 1 ≤ k) (hk3 : k ≤ 3) (hn : n ≤ 5) {sy : Bool} {S : Nat} (hS : S < 4294967296) {l : List Int} (hl : ∀ x ∈ l, 0 ≤ x ∧ x < k + n) : grammar_Least_any.f l k sy (S : Int) = some (l.any (badX k sy S)) := by
  unfold grammar_Least_any.f
  rw [if_pos]
  · congr 1
    induction l with
    | nil => rfl
    | cons x l ih =>
      rw [List.any_cons, List.any_cons, ih (fun y hy => hl y (List.mem_cons_of_mem _ hy))]
      congr 1
      have hx := hl x List.mem_cons_self
      unfold grammar_Least_any.p badX
      by_cases c : x < k
      · rw [decide_eq_true c, decide_eq_false (show ¬ x ≥ k by omega)]
        simp
      · rw [decide_eq_false c, decide_eq_true (show x ≥ k by omega), w64 (by omega) (by omega), shr_bit (by omega) (by omega) (by omega), bit_nat]
        cases S.testBit (x - k).toNat <;> simp
  · rw [List.all_eq_true]
    intro x hx
    have := hl x hx
    by_cases c : x < k
    · simp [c]
    · rw [w64 (by omega) (by omega)]
      simp
      omega
theorem least_l1 {k n : Int} (hk : 1 ≤ k) (hk3 : k ≤ 3) (hn : n ≤ 5) (sy : Bool) (s : Int) (rs0 : List S27) (N i0 : Int) (rs : List S27) (hl : rs.length ≤ 10) (h : ∀ r ∈ rs, GoodR k n r) {r : Int} : ∀ (d i : Nat) (S : Nat), i + d = rs.length → S < 2 ^ n.toNat →
    Ev (fun q => grammar_Least.l0 q N (wrap64 (i0 + 1)) k n s rs0 sy ((leastR k sy (rs.drop i) S : Nat) : Int)) r →
    Ev (fun q => grammar_Least.l1 q N i0 rs (rs.length : Int) (i : Int) k n s rs0 sy (S : Int)) r := by
  intro d
  induction d with
  | zero =>
    intro i S hi hS hr
    rw [List.drop_eq_nil_of_le (by omega)] at hr
    refine Ev.step (fun q => by rw [grammar_Least.l1]) ?_
    refine Ev.neg (by omega) ?_
    exact hr
  | succ d ih =>
    intro i S hi hS hr
    have hlt : i < rs.length := by omega
    have ga := h _ (getD_mem (d := z27) hlt)
    have hp : 2 ^ n.toNat ≤ 128 := pow_le7 (by omega)
    rw [drop_cons hlt z27] at hr
    refine Ev.step (fun q => by rw [grammar_Least.l1]) ?_
    refine Ev.pos (by omega) ?_
    refine Ev.pos (by omega) ?_
    refine Ev.pos (by omega) ?_
    rw [rdR_nat, w64 (n := (i : Int) + 1) (by omega) (by omega)]
    generalize rs.getD i z27 = a at *
    have q0 := ga.l0
    have q1 := ga.l1
    refine Ev.bindc (any_bad hk hk3 hn (by omega) ga.sg) ?_
    by_cases c : a.f1.any (badX k sy S) = true
    · refine Ev.pos c (ih (i + 1) S (by omega) hS ?_)
      have e : leastR k sy (a :: rs.drop (i + 1)) S = leastR k sy (rs.drop (i + 1)) S := by
        show leastR k sy (rs.drop (i + 1)) (leastF k sy S a) = _
        unfold leastF
        rw [if_pos c]
      rw [e] at hr
      exact hr
    · refine Ev.neg c ?_
      refine Ev.pos ga.l0 ?_
      rw [or_bit (by omega) ga.l0 (by omega)]
      refine ih (i + 1) _ (by omega) (ors_lt ga.l0 ga.l1 hS) ?_
      have e : leastR k sy (a :: rs.drop (i + 1)) S = leastR k sy (rs.drop (i + 1)) (S ||| 2 ^ a.f0.toNat) := by
        show leastR k sy (rs.drop (i + 1)) (leastF k sy S a) = _
        unfold leastF
        rw [if_neg c]
      rw [e] at hr
      exact hr
theorem least_l0 {k n s : Int} {rs : List S27} (h : GoodG k n s rs) (sy : Bool) : ∀ (d i : Nat) (S : Nat), i + d = n.toNat → S < 2 ^ n.toNat →
    Ev (fun q => grammar_Least.l0 q n (i : Int) k n s rs sy (S : Int)) (leastN k sy rs d S : Nat) := by
  have hn5 := h.n5
  have hn1 := h.n1
  intro d
  induction d with
  | zero =>
    intro i S hi hS
    refine Ev.step (fun q => by rw [grammar_Least.l0]) ?_
    refine Ev.neg (by omega) ?_
    exact Ev.now _
  | succ d ih =>
    intro i S hi hS
    refine Ev.step (fun q => by rw [grammar_Least.l0]) ?_
    refine Ev.pos (by omega) ?_
    refine least_l1 h.k1 h.k3 h.n5 sy s rs n (i : Int) rs h.len h.rule rs.length 0 S (by omega) hS ?_
    rw [List.drop_zero, w64 (n := (i : Int) + 1) (by omega) (by omega)]
    exact ih (i + 1) _ (by omega) (leastR_lt h.rule hS)
theorem least_good {k n s : Int} {rs : List S27} (h : GoodG k n s rs) (sy : Bool) : Ev (fun q => grammar_Least.f q k n s rs sy) (leastN k sy rs n.toNat 0 : Nat) := by
  refine Ev.congr (fun q => by rw [grammar_Least.f]) ?_
  exact least_l0 h sy n.toNat 0 0 (by omega) (Nat.pow_pos (by omega))
theorem any_mono {α : Type} {p q : α → Bool} (h : ∀ x, p x = true → q x = true) {l : List α} (hl : l.any p = true) : l.any q = true := by
  rw [List.any_eq_true] at hl ⊢
  obtain ⟨x, hx, h2⟩ := hl
  exact ⟨x, hx, h x h2⟩
theorem badX_mono {k : Int} {sy sy' : Bool} (hsy : sy = true → sy' = true) {S S' : Nat} (h : Sub S S') (x : Int) (hb : badX k sy' S' x = true) : badX k sy S x = true := by
  unfold badX at hb ⊢
  rw [Bool.or_eq_true, Bool.and_eq_true, Bool.and_eq_true, Bool.not_eq_true', Bool.not_eq_true'] at hb ⊢
  rcases hb with ⟨h1, h2⟩ | ⟨h1, h2⟩
  · left
    refine ⟨h1, ?_⟩
    cases sy
    · rfl
    · rw [hsy rfl] at h2; exact h2
  · right
    refine ⟨h1, ?_⟩
    cases hs : S.testBit (x - k).toNat
    · rfl
    · rw [h _ hs] at h2; exact h2
theorem leastF_mono {k : Int} {sy sy' : Bool} (hsy : sy = true → sy' = true) {S S' : Nat} (h : Sub S S') (r : S27) : Sub (leastF k sy S r) (leastF k sy' S' r) := by
  unfold leastF
  by_cases c : r.f1.any (badX k sy S) = true
  · rw [if_pos c]
    split
    · exact h
    · exact h.trans (or_sub _ _)
  · rw [if_neg c, if_neg (fun h2 => c (any_mono (badX_mono hsy h) h2))]
    exact sub_or (h.trans (or_sub _ _)) (or_has _ _)
theorem leastF_sub (k : Int) (sy : Bool) (S : Nat) (r : S27) : Sub S (leastF k sy S r) := by
  unfold leastF
  split
  · exact Sub.refl _
  · exact or_sub _ _
theorem leastR_mono {k : Int} {sy sy' : Bool} (hsy : sy = true → sy' = true) : ∀ (rs : List S27) {S S' : Nat}, Sub S S' → Sub (leastR k sy rs S) (leastR k sy' rs S')
  | [], S, S', h => h
  | r :: rs, S, S', h => leastR_mono hsy rs (leastF_mono hsy h r)
theorem leastN_mono {k : Int} {sy sy' : Bool} (hsy : sy = true → sy' = true) (rs : List S27) : ∀ (d : Nat) {S S' : Nat}, Sub S S' → Sub (leastN k sy rs d S) (leastN k sy' rs d S')
  | 0, S, S', h => h
  | d + 1, S, S', h => leastN_mono hsy rs d (leastR_mono hsy rs h)
theorem leastN_more (k : Int) (sy : Bool) (rs : List S27) (r : S27) : ∀ (d : Nat) {S S' : Nat}, Sub S S' → Sub (leastN k sy rs d S) (leastN k sy (rs ++ [r]) d S')
  | 0, S, S', h => h
  | d + 1, S, S', h => by
    refine leastN_more k sy rs r d ?_
    show Sub (leastR k sy rs S) (leastR k sy (rs ++ [r]) S')
    unfold leastR
    rw [List.foldl_append]
    exact (leastR_mono (fun h => h) rs h).trans (leastF_sub k sy _ r)
def comeX (k f0 : Int) (S : Nat) (x : Int) : Nat := if S.testBit f0.toNat = true then (if k ≤ x then S ||| 2 ^ (x - k).toNat else S) else S
def comeF (k : Int) (S : Nat) (r : S27) : Nat := r.f1.foldl (comeX k r.f0) S
def comeR (k : Int) (rs : List S27) (S : Nat) : Nat := rs.foldl (comeF k) S
def comeN (k : Int) (rs : List S27) : Nat → Nat → Nat
  | 0, S => S
  | d + 1, S => comeN k rs d (comeR k rs S)
theorem comeX_lt {k n : Int} {f0 x : Int} (hx : 0 ≤ x ∧ x < k + n) {S : Nat} (hS : S < 2 ^ n.toNat) : comeX k f0 S x < 2 ^ n.toNat := by
  unfold comeX
  split
  · split
    · exact ors_lt (by omega) (by omega) hS
    · exact hS
  · exact hS
theorem comeL_lt {k n : Int} {f0 : Int} : ∀ {l : List Int}, (∀ x ∈ l, 0 ≤ x ∧ x < k + n) → ∀ {S : Nat}, S < 2 ^ n.toNat → l.foldl (comeX k f0) S < 2 ^ n.toNat
  | [], _, S, hS => hS
  | x :: l, h, S, hS => comeL_lt (l := l) (fun y hy => h y (List.mem_cons_of_mem _ hy)) (comeX_lt (h x List.mem_cons_self) hS)
theorem comeR_lt {k n : Int} : ∀ {rs : List S27}, (∀ r ∈ rs, GoodR k n r) → ∀ {S : Nat}, S < 2 ^ n.toNat → comeR k rs S < 2 ^ n.toNat
  | [], _, S, hS => hS
  | r :: rs, h, S, hS => comeR_lt (rs := rs) (fun x hx => h x (List.mem_cons_of_mem _ hx)) (comeL_lt (h r List.mem_cons_self).sg hS)
theorem comeN_lt {k n : Int} {rs : List S27} (h : ∀ r ∈ rs, GoodR k n r) : ∀ (d : Nat) {S : Nat}, S < 2 ^ n.toNat → comeN k rs d S < 2 ^ n.toNat
  | 0, S, hS => hS
  | d + 1, S, hS => comeN_lt h d (comeR_lt h hS)
theorem comes_l2 {k n : Int} (hk : 1 ≤ k) (hk3 : k ≤ 3) (hn : n ≤ 5) (s : Int) (rs0 : List S27) (N i0 : Int) (rs : List S27) (RL j0 : Int) (f0 : Int) (h0 : 0 ≤ f0) (l l' : List Int) (hl : l.length ≤ 4) (h : ∀ x ∈ l, 0 ≤ x ∧ x < k + n) {r : Int × Int} : ∀ (d i : Nat) (S : Nat), i + d = l.length → S < 2 ^ n.toNat →
    Ev (fun q => grammar_Comes.l1 q (((l.drop i).foldl (comeX k f0) S : Nat) : Int) N i0 rs RL (wrap64 (j0 + 1)) k n s rs0) r →
    Ev (fun q => grammar_Comes.l2 q (S : Int) N i0 rs RL j0 l (l.length : Int) (i : Int) k n s rs0 f0 l') r := by
  intro d
  induction d with
  | zero =>
    intro i S hi hS hr
    rw [List.drop_eq_nil_of_le (by omega)] at hr
    refine Ev.step (fun q => by rw [grammar_Comes.l2]) ?_
    refine Ev.neg (by omega) ?_
    exact hr
  | succ d ih =>
    intro i S hi hS hr
    have hlt : i < l.length := by omega
    have hx := h _ (getD_mem (d := (0 : Int)) hlt)
    have hp : 2 ^ n.toNat ≤ 128 := pow_le7 (by omega)
    rw [drop_cons hlt 0, List.foldl_cons] at hr
    refine Ev.step (fun q => by rw [grammar_Comes.l2]) ?_
    refine Ev.pos (by omega) ?_
    refine Ev.pos (by omega) ?_
    refine Ev.pos (by omega) ?_
    refine Ev.pos h0 ?_
    rw [rd_nat, w64 (n := (i : Int) + 1) (by omega) (by omega), shr_bit (by omega) (by omega) h0, bit_nat]
    generalize l.getD i 0 = x at *
    by_cases c1 : S.testBit f0.toNat = true
    · rw [if_pos c1]
      refine Ev.pos rfl ?_
      by_cases c2 : x ≥ k
      · refine Ev.pos c2 ?_
        rw [w64 (n := x - k) (by omega) (by omega)]
        refine Ev.pos (by omega) ?_
        rw [or_bit (by omega) (by omega) (by omega)]
        refine ih (i + 1) _ (by omega) (ors_lt (by omega) (by omega) hS) ?_
        unfold comeX at hr
        rw [if_pos c1, if_pos (show k ≤ x from c2)] at hr
        exact hr
      · refine Ev.neg c2 (ih (i + 1) _ (by omega) hS ?_)
        unfold comeX at hr
        rw [if_pos c1, if_neg (show ¬ k ≤ x from c2)] at hr
        exact hr
    · rw [if_neg c1]
      refine Ev.neg (by decide) (ih (i + 1) _ (by omega) hS ?_)
      unfold comeX at hr
      rw [if_neg c1] at hr
      exact hr
theorem comes_l1 {k n : Int} (hk : 1 ≤ k) (hk3 : k ≤ 3) (hn : n ≤ 5) (s : Int) (rs0 : List S27) (N i0 : Int) (rs : List S27) (hl : rs.length ≤ 10) (hsm : ∀ r ∈ rs, r.f1.length ≤ 4) (h : ∀ r ∈ rs, GoodR k n r) {r : Int × Int} : ∀ (d i : Nat) (S : Nat), i + d = rs.length → S < 2 ^ n.toNat →
    Ev (fun q => grammar_Comes.l0 q ((comeR k (rs.drop i) S : Nat) : Int) N (wrap64 (i0 + 1)) k n s rs0) r →
    Ev (fun q => grammar_Comes.l1 q (S : Int) N i0 rs (rs.length : Int) (i : Int) k n s rs0) r := by
  intro d
  induction d with
  | zero =>
    intro i S hi hS hr
    rw [List.drop_eq_nil_of_le (by omega)] at hr
    refine Ev.step (fun q => by rw [grammar_Comes.l1]) ?_
    refine Ev.neg (by omega) ?_
    exact hr
  | succ d ih =>
    intro i S hi hS hr
    have hlt : i < rs.length := by omega
    have ga := h _ (getD_mem (d := z27) hlt)
    have h4 := hsm _ (getD_mem (d := z27) hlt)
    rw [drop_cons hlt z27] at hr
    refine Ev.step (fun q => by rw [grammar_Comes.l1]) ?_
    refine Ev.pos (by omega) ?_
    refine Ev.pos (by omega) ?_
    refine Ev.pos (by omega) ?_
    rw [rdR_nat]
    generalize rs.getD i z27 = a at *
    refine comes_l2 hk hk3 hn s rs0 N i0 rs _ (i : Int) a.f0 ga.l0 a.f1 a.f1 h4 ga.sg a.f1.length 0 S (by omega) hS ?_
    rw [List.drop_zero, w64 (n := (i : Int) + 1) (by omega) (by omega)]
    exact ih (i + 1) _ (by omega) (comeL_lt ga.sg hS) hr
theorem comes_l0 {k n s : Int} {rs : List S27} (h : GoodG k n s rs) : ∀ (d i : Nat) (S : Nat), i + d = n.toNat → S < 2 ^ n.toNat →
    Ev (fun q => grammar_Comes.l0 q (S : Int) n (i : Int) k n s rs) ((comeN k rs d S : Nat), 0) := by
  have hn5 := h.n5
  have hn1 := h.n1
  intro d
  induction d with
  | zero =>
    intro i S hi hS
    refine Ev.step (fun q => by rw [grammar_Comes.l0]) ?_
    refine Ev.neg (by omega) ?_
    exact Ev.now _
  | succ d ih =>
    intro i S hi hS
    refine Ev.step (fun q => by rw [grammar_Comes.l0]) ?_
    refine Ev.pos (by omega) ?_
    refine comes_l1 h.k1 h.k3 h.n5 s rs n (i : Int) rs h.len h.small h.rule rs.length 0 S (by omega) hS ?_
    rw [List.drop_zero, w64 (n := (i : Int) + 1) (by omega) (by omega)]
    exact ih (i + 1) _ (by omega) (comeR_lt h.rule hS)
theorem comeX_sub (k f0 : Int) (S : Nat) (x : Int) : Sub S (comeX k f0 S x) := by
  unfold comeX
  split
  · split
    · exact or_sub _ _
    · exact Sub.refl _
  · exact Sub.refl _
theorem comeX_mono {k f0 : Int} {S S' : Nat} (h : Sub S S') (x : Int) : Sub (comeX k f0 S x) (comeX k f0 S' x) := by
  unfold comeX
  by_cases c : S.testBit f0.toNat = true
  · rw [if_pos c, if_pos (h _ c)]
    split
    · exact sub_or (h.trans (or_sub _ _)) (or_has _ _)
    · exact h
  · rw [if_neg c]
    split
    · split
      · exact h.trans (or_sub _ _)
      · exact h
    · exact h
theorem comeL_mono (k f0 : Int) : ∀ (l : List Int) {S S' : Nat}, Sub S S' → Sub (l.foldl (comeX k f0) S) (l.foldl (comeX k f0) S')
  | [], S, S', h => h
  | x :: l, S, S', h => comeL_mono k f0 l (comeX_mono h x)
theorem comeL_sub (k f0 : Int) : ∀ (l : List Int) (S : Nat), Sub S (l.foldl (comeX k f0) S)
  | [], S => Sub.refl S
  | x :: l, S => (comeX_sub k f0 S x).trans (comeL_sub k f0 l _)
theorem comeR_mono (k : Int) : ∀ (rs : List S27) {S S' : Nat}, Sub S S' → Sub (comeR k rs S) (comeR k rs S')
  | [], S, S', h => h
  | r :: rs, S, S', h => comeR_mono k rs (comeL_mono k r.f0 r.f1 h)
theorem comeR_sub (k : Int) : ∀ (rs : List S27) (S : Nat), Sub S (comeR k rs S)
  | [], S => Sub.refl S
  | r :: rs, S => (comeL_sub k r.f0 r.f1 S).trans (comeR_sub k rs _)
theorem comeN_sub (k : Int) (rs : List S27) : ∀ (d : Nat) (S : Nat), Sub S (comeN k rs d S)
  | 0, S => Sub.refl S
  | d + 1, S => (comeR_sub k rs S).trans (comeN_sub k rs d _)
theorem comeN_more (k : Int) (rs : List S27) (r : S27) : ∀ (d : Nat) {S S' : Nat}, Sub S S' → Sub (comeN k rs d S) (comeN k (rs ++ [r]) d S')
  | 0, S, S', h => h
  | d + 1, S, S', h => by
    refine comeN_more k rs r d ?_
    show Sub (comeR k rs S) (comeR k (rs ++ [r]) S')
    unfold comeR
    rw [List.foldl_append]
    exact (comeR_mono k rs h).trans (comeL_sub k r.f0 r.f1 _)
end Go.Proofs.Ytnkackiocigdoaa.PAM
