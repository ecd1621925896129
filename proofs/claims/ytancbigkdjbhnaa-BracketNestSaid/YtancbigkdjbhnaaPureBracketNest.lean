/- The law BracketNest, as plain Lean: of right brackets each has its pair, and two pairs are nested or have nothing in common. Conditions: none beyond the kinds of the arguments. -/
import Derived.Test.YtancbigkdjbhnaaGA17
import Derived.Test.YtancbigkdjbhnaaEv
namespace Go.Proofs.Ytancbigkdjbhnaa.Pure
set_option linter.unusedVariables false
set_option linter.unusedSimpArgs false
open Go.RowKit Go.Proofs.Ytancbigkdjbhnaa.GA Go.Proofs.YtancbigkdjbhnaaW.PrintWords Go.Proofs.YtancbigkdjbhnaaW.PrintLast

def okD : Nat → List Bool → Bool
  | d, [] => d == 0
  | d, true :: r => okD (d + 1) r
  | 0, false :: _ => false
  | d + 1, false :: r => okD d r
theorem is_loop (l : List Bool) (hl : l.length ≤ 60) : ∀ (d i n : Nat), i + d = l.length → n ≤ i → Ev (fun k => bracket_is.l0 k (n : Int) l (l.length : Int) (i : Int)) (okD n (l.drop i)) := by
  intro d
  induction d with
  | zero =>
    intro i n hi hn
    refine Ev.step (fun k => by rw [bracket_is.l0]) (Ev.neg (by omega) (Ev.eq (Ev.now _) ?_))
    rw [List.drop_eq_nil_of_le (by omega)]
    simp only [okD]
    rw [Bool.eq_iff_iff, beq_iff_eq, beq_iff_eq]; omega
  | succ d ih =>
    intro i n hi hn
    refine Ev.step (fun k => by rw [bracket_is.l0]) (Ev.pos (by omega) (Ev.pos (by omega) (Ev.pos (by omega) ?_)))
    have e : l[i]'(by omega) = l.getD i false := by simp [List.getD_eq_getElem?_getD, List.getElem?_eq_getElem (by omega : i < l.length)]
    rw [rdOf_nat, w64 (n := (i : Int) + 1) (by omega) (by omega), List.drop_eq_getElem_cons (by omega : i < l.length), e]
    cases l.getD i false with
    | true =>
      refine Ev.pos rfl ?_
      rw [w64 (by omega) (by omega)]
      exact ih (i + 1) (n + 1) (by omega) (by omega)
    | false =>
      refine Ev.neg (by simp) ?_
      rw [w64 (by omega) (by omega)]
      cases n with
      | zero => exact Ev.pos (by omega) (Ev.now _)
      | succ n =>
        refine Ev.neg (by omega) ?_
        have := ih (i + 1) n (by omega) (by omega)
        rw [show ((n + 1 : Nat) : Int) - 1 = (n : Int) by omega]
        exact this
theorem is_spec (l : List Bool) (hl : l.length ≤ 60) : Ev (fun k => bracket_is.f k l) (okD 0 l) := by
  have := is_loop l hl l.length 0 0 (by omega) (by omega)
  rw [List.drop_zero] at this
  exact this
/-- What the stack S and the partners out tell of the first i brackets. -/
structure NI (l : List Bool) (out : List Int) (S : List Nat) (i : Nat) : Prop where
  len : out.length = l.length
  pair : ∀ q, q < i → q ∉ S → ∃ r : Nat, out.getD q 0 = r ∧ r < i ∧ r ∉ S ∧ r ≠ q ∧ out.getD r 0 = q ∧ l.getD q false = decide (q < r)
  sorted : S.Pairwise (· < ·)
  op : ∀ s, s ∈ S → s < i
  apart : ∀ q r : Nat, q < i → q ∉ S → out.getD q 0 = r → q < r → ∀ s, s ∈ S → s < q ∨ r < s
  nest : ∀ q1 q2 r1 r2 : Nat, q1 < q2 → q2 < i → q1 ∉ S → q2 ∉ S → out.getD q1 0 = r1 → out.getD q2 0 = r2 → q1 < r1 → q2 < r2 → r1 < q2 ∨ r2 < r1
  opn : ∀ s, s ∈ S → l.getD s false = true
theorem gs (xs : List Int) (n t : Nat) (a : Int) (h : n < xs.length) : (xs.set n a).getD t 0 = if t = n then a else xs.getD t 0 := by
  simp only [List.getD_eq_getElem?_getD, List.getElem?_set]
  by_cases e : n = t
  · subst e; simp [h]
  · rw [if_neg e, if_neg (Ne.symm e)]
theorem NI.push {l : List Bool} {out : List Int} {S : List Nat} {i : Nat} (h : NI l out S i) (hx : l.getD i false = true) : NI l out (S ++ [i]) (i + 1) where
  len := h.len
  pair := fun q hq hn => by
    have hqi : q ≠ i := fun e => hn (by simp [e])
    have hqS : q ∉ S := fun e => hn (by simp [e])
    obtain ⟨r, a, b, c, d⟩ := h.pair q (by omega) hqS
    exact ⟨r, a, by omega, by simp [c] <;> omega, d⟩
  sorted := by
    rw [List.pairwise_append]
    exact ⟨h.sorted, by simp, fun a ha b hb => by simp at hb; subst hb; exact h.op a ha⟩
  op := fun s hs => by
    rcases List.mem_append.1 hs with e | e
    · have := h.op s e; omega
    · simp at e; omega
  apart := fun q r hq hn e hr s hs => by
    have hqi : q ≠ i := fun e => hn (by simp [e])
    have hqS : q ∉ S := fun e => hn (by simp [e])
    rcases List.mem_append.1 hs with e2 | e2
    · exact h.apart q r (by omega) hqS e hr s e2
    · simp at e2; subst e2
      obtain ⟨r', a, b, _⟩ := h.pair q (by omega) hqS
      rw [a] at e; omega
  nest := fun q1 q2 r1 r2 h1 h2 n1 n2 e1 e2 l1 l2 => by
    have a1 : q2 ≠ i := fun e => n2 (by simp [e])
    exact h.nest q1 q2 r1 r2 h1 (by omega) (fun e => n1 (by simp [e])) (fun e => n2 (by simp [e])) e1 e2 l1 l2
  opn := fun s hs => by
    rcases List.mem_append.1 hs with e | e
    · exact h.opn s e
    · simp at e; subst e; exact hx
theorem NI.pop {l : List Bool} {out : List Int} {S : List Nat} {i j : Nat} (h : NI l out (S ++ [j]) i) (hi : i < l.length) (hx : l.getD i false = false) : NI l ((out.set i (j : Int)).set j (i : Int)) S (i + 1) := by
  have hj : j < i := h.op j (by simp)
  have hs := h.sorted
  rw [List.pairwise_append] at hs
  have hjS : j ∉ S := fun e => by have := hs.2.2 j e j (by simp); omega
  have hiS : i ∉ S := fun e => by have := h.op i (by simp [e]); omega
  have hlen := h.len
  have gd : ∀ t : Nat, ((out.set i (j : Int)).set j (i : Int)).getD t 0 = if t = j then (i : Int) else if t = i then (j : Int) else out.getD t 0 := fun t => by
    rw [gs _ _ _ _ (by simp <;> omega), gs _ _ _ _ (by omega)]
  have lj : l.getD j false = true := h.opn j (by simp)
  exact {
    len := by simp; exact hlen
    pair := fun q hq hn => by
      by_cases e1 : q = j
      · subst e1
        exact ⟨i, by rw [gd, if_pos rfl], by omega, hiS, by omega, by rw [gd, if_neg (by omega), if_pos rfl], by rw [lj]; simp; omega⟩
      · by_cases e2 : q = i
        · subst e2
          exact ⟨j, by rw [gd, if_neg e1, if_pos rfl], by omega, hjS, by omega, by rw [gd, if_pos rfl], by rw [hx]; simp; omega⟩
        · obtain ⟨r, a, b, c, d, e, f⟩ := h.pair q (by omega) (by simp [hn, e1])
          have rj : r ≠ j := fun z => c (by simp [z])
          exact ⟨r, by rw [gd, if_neg e1, if_neg e2, a], by omega, fun z => c (by simp [z]), d, by rw [gd, if_neg rj, if_neg (by omega), e], f⟩
    sorted := hs.1
    op := fun s hs => by have := h.op s (by simp [hs]); omega
    apart := fun q r hq hn e hr s hs2 => by
      have sj := hs.2.2 s hs2 j (by simp)
      rw [gd] at e
      by_cases e1 : q = j
      · subst e1; exact .inl sj
      · rw [if_neg e1] at e
        by_cases e2 : q = i
        · subst e2; rw [if_pos rfl] at e; omega
        · rw [if_neg e2] at e
          exact h.apart q r (by omega) (by simp [hn, e1]) e hr s (by simp [hs2])
    nest := fun q1 q2 r1 r2 h1 h2 n1 n2 e1 e2 l1 l2 => by
      rw [gd] at e1 e2
      have c1 : q1 ≠ i := by omega
      by_cases a1 : q1 = j
      · subst a1
        rw [if_pos rfl] at e1
        by_cases b2 : q2 = i
        · subst b2; rw [if_neg (by omega), if_pos rfl] at e2; omega
        · rw [if_neg (by omega), if_neg b2] at e2
          obtain ⟨r, a, b, _⟩ := h.pair q2 (by omega) (by simp [n2] <;> omega)
          rw [a] at e2
          omega
      · rw [if_neg a1, if_neg c1] at e1
        by_cases a2 : q2 = j
        · subst a2
          have := h.apart q1 r1 (by omega) (by simp [n1, a1]) e1 l1 q2 (by simp)
          omega
        · rw [if_neg a2] at e2
          by_cases b2 : q2 = i
          · subst b2; rw [if_pos rfl] at e2; omega
          · rw [if_neg b2] at e2
            exact h.nest q1 q2 r1 r2 h1 (by omega) (by simp [n1, a1]) (by simp [n2, a2]) e1 e2 l1 l2
    opn := fun s hs => h.opn s (by simp [hs]) }
def ints (S : List Nat) : List Int := S.map (fun s : Nat => (s : Int))
theorem pairs_loop (l : List Bool) (hl : l.length ≤ 60) : ∀ (d i : Nat) (out : List Int) (S : List Nat), i + d = l.length → NI l out S i → S.length ≤ i → okD S.length (l.drop i) = true →
    ∃ p, NI l p [] l.length ∧ Ev (fun k => bracket_Pairs.l0 k out (ints S) l (l.length : Int) (i : Int)) (p, 0) := by
  intro d
  induction d with
  | zero =>
    intro i out S hi h hS ho
    rw [List.drop_eq_nil_of_le (by omega)] at ho
    simp only [okD, beq_iff_eq] at ho
    obtain rfl := List.length_eq_zero_iff.1 ho
    obtain rfl : i = l.length := by omega
    exact ⟨out, h, Ev.step (fun k => by rw [bracket_Pairs.l0]) (Ev.neg (by omega) (Ev.now _))⟩
  | succ d ih =>
    intro i out S hi h hS ho
    have e : l[i]'(by omega) = l.getD i false := by simp [List.getD_eq_getElem?_getD, List.getElem?_eq_getElem (by omega : i < l.length)]
    rw [List.drop_eq_getElem_cons (by omega : i < l.length), e] at ho
    have hlen := h.len
    cases hx : l.getD i false with
    | true =>
      rw [hx] at ho
      obtain ⟨p, hp, he⟩ := ih (i + 1) out (S ++ [i]) (by omega) (h.push hx) (by simp <;> omega) (by simpa [okD] using ho)
      refine ⟨p, hp, Ev.step (fun k => by rw [bracket_Pairs.l0]) (Ev.pos (by omega) (Ev.pos (by omega) (Ev.pos (by omega) (Ev.pos (by rw [rdOf_nat]; exact hx) (Ev.pos (by simp [ints] <;> omega) ?_)))))⟩
      rw [w64 (by omega) (by omega)]
      have : ints (S ++ [i]) = ints S ++ [(i : Int)] := by simp [ints]
      rw [← this]
      exact he
    | false =>
      rw [hx] at ho
      rcases List.eq_nil_or_concat S with rfl | ⟨S', j, rfl⟩
      · simp [okD] at ho
      · rw [List.concat_eq_append] at h hS ho ⊢
        have hj : j < i := h.op j (by simp)
        obtain ⟨p, hp, he⟩ := ih (i + 1) _ S' (by omega) (h.pop (by omega) hx) (by simp at hS; omega) (by simpa [okD] using ho)
        have hl2 : ((ints (S' ++ [j])).length : Int) - 1 = (S'.length : Int) := by simp [ints] <;> omega
        have hl3 : (ints (S' ++ [j])).length = S'.length + 1 := by simp [ints]
        simp at hS
        have e1 : rd (ints (S' ++ [j])) (S'.length : Int) = (j : Int) := by
          rw [rd_nat]; simp [ints, List.getD_eq_getElem?_getD]
        refine ⟨p, hp, Ev.step (fun k => by rw [bracket_Pairs.l0]) (Ev.pos (by omega) (Ev.pos (by omega) (Ev.pos (by omega) (Ev.neg (by rw [rdOf_nat, hx]; simp) ?_))))⟩
        simp only [hl2]
        rw [w64 (n := (S'.length : Int)) (by omega) (by omega), w64 (n := (i : Int) + 1) (by omega) (by omega), e1]
        refine Ev.pos (by omega) (Ev.pos (by omega) (Ev.pos (by omega) (Ev.pos (by omega) (Ev.pos (by omega) (Ev.pos (by omega) ?_)))))
        have e2 : (ints (S' ++ [j])).take ((S'.length : Int)).toNat = ints S' := by simp [ints]
        rw [e2, Int.toNat_natCast, Int.toNat_natCast]
        exact he
theorem inside_loop (n : Int) (p : List Int) (hp : ∀ x ∈ p, 0 ≤ x ∧ x < n) (hl : p.length ≤ 100) : ∀ (d i : Nat), i + d = p.length → Ev (fun k => coppicerkeep_inside.l0 k n p (p.length : Int) (i : Int)) true := by
  intro d
  induction d with
  | zero => intro i hi; exact Ev.step (fun k => by rw [coppicerkeep_inside.l0]) (Ev.neg (by omega) (Ev.now _))
  | succ d ih =>
    intro i hi
    have := hp _ (getD_mem (xs := p) (i := i) (d := 0) (by omega))
    refine Ev.step (fun k => by rw [coppicerkeep_inside.l0]) (Ev.pos (by omega) (Ev.pos (by omega) (Ev.pos (by omega) ?_)))
    rw [rd_nat, w64 (by omega) (by omega)]
    exact Ev.neg (by omega) (Ev.neg (by omega) (ih (i + 1) (by omega)))
theorem BracketNest : coppicerkeep_BracketNest.Pure := by
  intro l a b ⟨_, hlen, _⟩ ha hb
  have ha := wf_u8 ha
  have hb := wf_u8 hb
  refine Ev.rounds ?_
  unfold coppicerkeep_BracketNest.f bracket_Pairs.f bracket_Is.f
  by_cases hl : (l.length : Int) > 60
  · exact Ev.bind (Ev.pos hl (Ev.now _)) (Ev.bind (Ev.pos hl (Ev.now _)) (Ev.pos hl (Ev.neg (by decide) (Ev.eq (Ev.now _) (by decide)))))
  have his := is_spec l (by omega)
  cases hok : okD 0 l with
  | false =>
    rw [hok] at his
    refine Ev.bind (Ev.neg hl (Ev.bind his (Ev.neg (by simp) (Ev.now _)))) (Ev.bind (Ev.neg hl (Ev.bind his (Ev.now _))) (Ev.neg hl (Ev.pos rfl ?_)))
    refine Ev.step (fun k => by rw [coppicerkeep_BracketNest.j0]) (Ev.neg (by decide) (Ev.neg (by simp) ?_))
    exact Ev.step (fun k => by rw [coppicerkeep_BracketNest.j1]) (Ev.pos rfl (Ev.eq (Ev.now _) (by decide)))
  | true =>
    rw [hok] at his
    obtain ⟨p, hp, he⟩ := pairs_loop l (by omega) l.length 0 (List.replicate l.length 0) [] (by omega) ⟨by simp, fun q h => by omega, by simp, by simp, fun q r h => by omega, fun q1 q2 r1 r2 h1 h2 => by omega, by simp⟩ (by simp) (by simpa using hok)
    refine Ev.bind (Ev.neg hl (Ev.bind his (Ev.pos rfl (Ev.pos (by omega) (Ev.pos (by omega) (by rw [Int.toNat_natCast]; exact he)))))) (Ev.bind (Ev.neg hl (Ev.bind his (Ev.now _))) (Ev.neg hl (Ev.pos rfl ?_)))
    refine Ev.step (fun k => by rw [coppicerkeep_BracketNest.j0]) (Ev.neg (by simp) (Ev.pos rfl ?_))
    refine Ev.step (fun k => by rw [coppicerkeep_BracketNest.j1]) ?_
    have hlp := hp.len
    by_cases h0 : (l.length : Int) = 0
    · exact Ev.pos (by simpa using h0) (Ev.eq (Ev.now _) (by dsimp only; rw [hlp]; simpa using h0))
    refine Ev.neg (by simpa using h0) (Ev.neg h0 (Ev.pos (by simp [hlp]) ?_))
    have hin : ∀ x ∈ p, 0 ≤ x ∧ x < (l.length : Int) := fun x hx => by
      obtain ⟨q, hq⟩ := List.getElem?_of_mem hx
      have hql := (List.getElem?_eq_some_iff.1 hq).1
      obtain ⟨r, h1, h2, _⟩ := hp.pair q (by omega) (by simp)
      rw [List.getD_eq_getElem?_getD, hq, Option.getD_some] at h1
      omega
    have hins := inside_loop (l.length : Int) p hin (by omega) p.length 0 (by omega)
    refine Ev.bind (show Ev (fun k => coppicerkeep_inside.f k (l.length : Int) p) true from hins) (Ev.pos rfl ?_)
    have hpos : (0 : Int) < l.length := by omega
    obtain ⟨i, hi⟩ : ∃ i : Nat, a % (l.length : Int) = i := ⟨(a % (l.length : Int)).toNat, by have := Int.emod_nonneg a h0; omega⟩
    obtain ⟨j, hj⟩ : ∃ j : Nat, b % (l.length : Int) = j := ⟨(b % (l.length : Int)).toNat, by have := Int.emod_nonneg b h0; omega⟩
    have hil : (i : Int) < l.length := by rw [← hi]; exact Int.emod_lt_of_pos _ hpos
    have hjl : (j : Int) < l.length := by rw [← hj]; exact Int.emod_lt_of_pos _ hpos
    have ei : Int.tmod (wrap64 a) (l.length : Int) = i := by rw [w64 (by omega) (by omega), tm (by omega), hi]
    have ej : Int.tmod (wrap64 b) (l.length : Int) = j := by rw [w64 (by omega) (by omega), tm (by omega), hj]
    simp only [ei, ej]
    obtain ⟨r, h1, h2, _, h3, h4, h5⟩ := hp.pair i (by omega) (by simp)
    have er : rd p (i : Int) = (r : Int) := by rw [rd_nat]; exact h1
    have eq : rd p (r : Int) = (i : Int) := by rw [rd_nat]; exact h4
    rw [er, eq]
    refine Ev.pos (by omega) (Ev.pos (by omega) (Ev.pos (by omega) (Ev.pos (by omega) (Ev.pos rfl (Ev.neg (by omega) (Ev.pos hil ?_))))))
    refine Ev.step (fun k => by rw [coppicerkeep_BracketNest.j2]) (Ev.neg (by rw [rdOf_nat, h5]; simp <;> omega) (Ev.pos (by omega) (Ev.pos hil ?_)))
    cases hxi : l.getD i false with
    | false => exact Ev.neg (by rw [rdOf_nat, hxi]; simp) (Ev.now _)
    | true =>
      refine Ev.pos (by rw [rdOf_nat, hxi]) (Ev.pos (by omega) (Ev.pos hjl ?_))
      cases hxj : l.getD j false with
      | false => exact Ev.neg (by rw [rdOf_nat, hxj]; simp) (Ev.now _)
      | true =>
        refine Ev.pos (by rw [rdOf_nat, hxj]) ?_
        by_cases hij : (i : Int) ≥ j
        · exact Ev.pos hij (Ev.now _)
        refine Ev.neg hij (Ev.pos (by omega) ?_)
        rw [er]
        by_cases hrj : (r : Int) < j
        · exact Ev.pos hrj (Ev.now _)
        refine Ev.neg hrj (Ev.pos (by omega) (Ev.eq (Ev.now _) ?_))
        obtain ⟨r2, g1, g2, _, g3, g4, g5⟩ := hp.pair j (by omega) (by simp)
        rw [hxj] at g5
        rw [hxi] at h5
        have q1 : i < r := by simpa using h5.symm
        have q2 : j < r2 := by simpa using g5.symm
        have := hp.nest i j r r2 (by omega) (by omega) (by simp) (by simp) h1 g1 q1 q2
        rw [rd_nat, g1, decide_eq_true_iff]
        omega
end Go.Proofs.Ytancbigkdjbhnaa.Pure
