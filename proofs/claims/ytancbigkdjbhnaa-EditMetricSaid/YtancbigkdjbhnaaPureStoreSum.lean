/- The law StoreSum, as plain Lean: for any bytes (no more than 2^20), an exchange of two adjacent different bytes changes Fletcher's sum, and noughts ahead do not change it. Conditions: none beyond the kinds of the arguments. -/
import Derived.Test.YtancbigkdjbhnaaGA2
import Derived.Test.YtancbigkdjbhnaaEv
namespace Go.Proofs.Ytancbigkdjbhnaa.Pure
set_option linter.unusedVariables false
set_option linter.unusedSimpArgs false
open Go.RowKit Go.Proofs.Ytancbigkdjbhnaa.GA Go.Proofs.YtancbigkdjbhnaaW.PrintWords Go.Proofs.YtancbigkdjbhnaaW.PrintLast

def ss_step (p : Int × Int) (c : Int) : Int × Int := ((p.1 + c) % 257, (p.2 + (p.1 + c) % 257) % 257)
def ss_fold (p : Int × Int) (l : List Int) : Int × Int := l.foldl ss_step p
def ss_out (p : Int × Int) : List Int := [p.1 % 256, p.1 / 256 % 256, p.2 % 256, p.2 / 256 % 256]
def ss_in (p : Int × Int) : Prop := 0 ≤ p.1 ∧ p.1 ≤ 256 ∧ 0 ≤ p.2 ∧ p.2 ≤ 256
theorem ss_in_step (p : Int × Int) (c : Int) : ss_in (ss_step p c) := by unfold ss_in ss_step; simp only; omega
theorem ss_in_fold : ∀ (l : List Int) (p : Int × Int), ss_in p → ss_in (ss_fold p l)
  | [], _, h => h
  | c :: l, p, _ => ss_in_fold l (ss_step p c) (ss_in_step p c)
theorem ss_two (p : Int × Int) : ((store_two.f ([] : List Int) p.1).bind fun t => (store_two.f t p.2).bind fun t2 => some t2) = some (ss_out p) := by
  unfold store_two.f ss_out; simp
theorem ss_loop (xs : List Int) (hb : ∀ x ∈ xs, 0 ≤ x ∧ x ≤ 255) (hl : xs.length ≤ 140737488355328) : ∀ (d i : Nat) (p : Int × Int), i + d = xs.length → ss_in p →
    Ev (fun k => store_Sum.l0 k p.1 p.2 xs (xs.length : Int) (i : Int)) (ss_out (ss_fold p (xs.drop i))) := by
  intro d
  induction d with
  | zero =>
    intro i p hi hp
    refine Ev.step (fun k => by rw [store_Sum.l0]) ?_
    refine Ev.neg (by omega) ?_
    rw [List.drop_eq_nil_of_le (by omega)]
    exact Ev.val (ss_two p)
  | succ d ih =>
    intro i p hi hp
    refine Ev.step (fun k => by rw [store_Sum.l0]) ?_
    refine Ev.pos (by omega) (Ev.pos (by omega) (Ev.pos (by omega) ?_))
    have hc := hb _ (getD_mem (xs := xs) (i := i) (d := 0) (by omega))
    obtain ⟨h1, h2, h3, h4⟩ := hp
    rw [rd_nat, w64 (n := xs.getD i 0) (by omega) (by omega), w64 (n := p.1 + xs.getD i 0) (by omega) (by omega), tm (by omega), w64 (by omega) (by omega), tm (by omega), w64 (by omega) (by omega)]
    have := ih (i + 1) (ss_step p (xs.getD i 0)) (by omega) (ss_in_step _ _)
    rw [List.drop_eq_getElem_cons (by omega : i < xs.length)]
    have e : xs[i] = xs.getD i 0 := by simp [List.getD_eq_getElem?_getD, List.getElem?_eq_getElem (by omega : i < xs.length)]
    rw [e]
    exact this
theorem ss_sum (xs : List Int) (hb : ∀ x ∈ xs, 0 ≤ x ∧ x ≤ 255) (hl : xs.length ≤ 140737488355328) : Ev (fun k => store_Sum.f k xs) (ss_out (ss_fold (0, 0) xs)) := by
  unfold store_Sum.f
  exact ss_loop xs hb hl xs.length 0 (0, 0) (by omega) (by unfold ss_in; simp)
/-- coppicerref.Bytes, of lists of equal length. -/
theorem by_loop (a b : List Int) (hl : a.length = b.length) (hm : a.length ≤ 140737488355328) : ∀ (d i : Nat), i + d = a.length → Ev (fun k => coppicerref_Bytes.l0 k a b (i : Int)) (decide (a.drop i = b.drop i)) := by
  intro d
  induction d with
  | zero =>
    intro i hi
    refine Ev.step (fun k => by rw [coppicerref_Bytes.l0]) ?_
    refine Ev.neg (by omega) (Ev.eq (Ev.now true) ?_)
    rw [List.drop_eq_nil_of_le (by omega), List.drop_eq_nil_of_le (by omega)]; simp
  | succ d ih =>
    intro i hi
    refine Ev.step (fun k => by rw [coppicerref_Bytes.l0]) ?_
    refine Ev.pos (by omega) (Ev.pos (by omega) (Ev.pos (by omega) ?_))
    have ha : a[i]'(by omega) = a.getD i 0 := by simp [List.getD_eq_getElem?_getD, List.getElem?_eq_getElem (by omega : i < a.length)]
    have hb : b[i]'(by omega) = b.getD i 0 := by simp [List.getD_eq_getElem?_getD, List.getElem?_eq_getElem (by omega : i < b.length)]
    rw [List.drop_eq_getElem_cons (by omega : i < a.length), List.drop_eq_getElem_cons (by omega : i < b.length), ha, hb, rd_nat, rd_nat, w64 (by omega) (by omega)]
    by_cases h : a.getD i 0 = b.getD i 0
    · refine Ev.pos h (Ev.eq (ih (i + 1) (by omega)) ?_)
      rw [h]; simp
    · refine Ev.neg h (Ev.eq (Ev.now false) ?_)
      simp only [List.cons.injEq, h, false_and, decide_false]
theorem by_spec (a b : List Int) (hm : a.length ≤ 140737488355328) : Ev (fun k => coppicerref_Bytes.f k a b) (decide (a = b)) := by
  unfold coppicerref_Bytes.f
  by_cases h : a.length = b.length
  · refine Ev.pos (by omega) (Ev.eq (by_loop a b h hm a.length 0 (by omega)) (by simp))
  · refine Ev.neg (by omega) (Ev.eq (Ev.now false) ?_)
    have : a ≠ b := fun e => h (by rw [e])
    simp [this]
/-- Two pairs of sums that part in the second alone, read on. -/
theorem ss_apart : ∀ (l : List Int) (x y1 y2 : Int), 0 ≤ y1 → y1 ≤ 256 → 0 ≤ y2 → y2 ≤ 256 → y1 ≠ y2 → (ss_fold (x, y1) l).1 = (ss_fold (x, y2) l).1 ∧ (ss_fold (x, y1) l).2 ≠ (ss_fold (x, y2) l).2
  | [], _, _, _, _, _, _, _, h => ⟨rfl, h⟩
  | c :: l, x, y1, y2, h1, h2, h3, h4, h => ss_apart l ((x + c) % 257) ((y1 + (x + c) % 257) % 257) ((y2 + (x + c) % 257) % 257) (by omega) (by omega) (by omega) (by omega) (by omega)
theorem ss_out_ne {p q : Int × Int} (hp : ss_in p) (hq : ss_in q) (h : p.2 ≠ q.2) : ss_out p ≠ ss_out q := by
  intro e
  unfold ss_out at e
  simp only [List.cons.injEq, and_true] at e
  obtain ⟨_, _, h1, h2⟩ := hp
  obtain ⟨_, _, h3, h4⟩ := hq
  omega
theorem ss_swap (p : Int × Int) (hp : ss_in p) (a b : Int) (ha : 0 ≤ a ∧ a ≤ 255) (hb : 0 ≤ b ∧ b ≤ 255) (r : List Int) (h : a ≠ b) : ss_out (ss_fold p (b :: a :: r)) ≠ ss_out (ss_fold p (a :: b :: r)) := by
  have e1 : (ss_step (ss_step p b) a).1 = (ss_step (ss_step p a) b).1 := by unfold ss_step; simp only; omega
  have e2 : (ss_step (ss_step p b) a).2 ≠ (ss_step (ss_step p a) b).2 := by unfold ss_step; simp only; omega
  have i1 := ss_in_step (ss_step p b) a
  have i2 := ss_in_step (ss_step p a) b
  show ss_out (ss_fold (ss_step (ss_step p b) a) r) ≠ ss_out (ss_fold (ss_step (ss_step p a) b) r)
  generalize ss_step (ss_step p b) a = q1 at *
  generalize ss_step (ss_step p a) b = q2 at *
  obtain ⟨x1, y1⟩ := q1
  obtain ⟨x2, y2⟩ := q2
  simp only at e1 e2
  subst e1
  obtain ⟨k1, k2, k3, k4⟩ := i1
  obtain ⟨k5, k6, k7, k8⟩ := i2
  exact ss_out_ne (ss_in_fold _ _ ⟨k1, k2, k3, k4⟩) (ss_in_fold _ _ ⟨k5, k6, k7, k8⟩) (ss_apart r x1 y1 y2 k3 k4 k7 k8 e2).2
theorem ss_fold_app (p : Int × Int) (l r : List Int) : ss_fold p (l ++ r) = ss_fold (ss_fold p l) r := List.foldl_append
theorem StoreSum : coppicerkeep_StoreSum.Pure := by
  intro l0 a1 ⟨_, hl, hwf⟩ hw
  have hb : ∀ x ∈ l0, 0 ≤ x ∧ x ≤ 255 := fun x hx => wf_u8 (hwf x hx)
  obtain ⟨ha0, ha1⟩ := wf_u16 hw
  have hz : ss_fold (0, 0) ([0, 0, 0] ++ l0) = ss_fold (0, 0) l0 := by rw [ss_fold_app]; rfl
  have hb3 : ∀ x ∈ [0, 0, 0] ++ l0, 0 ≤ x ∧ x ≤ 255 := fun x hx => by
    rcases List.mem_append.1 hx with h | h
    · simp at h; omega
    · exact hb x h
  refine Ev.rounds ?_
  unfold coppicerkeep_StoreSum.f
  refine Ev.bind (ss_sum l0 hb (by omega)) (Ev.let_ (Ev.pos (by simp <;> omega) (Ev.bind (ss_sum _ hb3 (by simp <;> omega)) ?_)))
  by_cases hbig : (l0.length : Int) > 1048576
  · exact Ev.pos hbig (Ev.now true)
  refine Ev.neg hbig (Ev.pos (by simp [ss_out]) (Ev.bind (by_spec _ _ (by simp [ss_out])) ?_))
  rw [hz]
  refine Ev.step (fun k => by rw [coppicerkeep_StoreSum.j0]) (Ev.neg (by simp) ?_)
  by_cases h2 : (l0.length : Int) < 2
  · exact Ev.pos h2 (Ev.now true)
  refine Ev.neg h2 ?_
  obtain ⟨n, hn⟩ : ∃ n : Nat, a1 % ((l0.length : Int) - 1) = n := ⟨(a1 % ((l0.length : Int) - 1)).toNat, by have := Int.emod_nonneg a1 (show (l0.length : Int) - 1 ≠ 0 by omega); omega⟩
  have hn2 : (n : Int) < (l0.length : Int) - 1 := by rw [← hn]; exact Int.emod_lt_of_pos _ (by omega)
  have ei : Int.tmod (wrap64 a1) (wrap64 ((l0.length : Int) - 1)) = n := by rw [w64 (by omega) (by omega), w64 (by omega) (by omega), tm (by omega), hn]
  simp only [ei]
  rw [w64 (n := (l0.length : Int) - 1) (by omega) (by omega), w64 (n := (n : Int) + 1) (by omega) (by omega)]
  refine Ev.neg (by omega) (Ev.let_ (Ev.pos (by simp <;> omega) (Ev.let_ (Ev.pos (by omega) (Ev.pos (by simp <;> omega) (Ev.pos (by omega) (Ev.pos (by simp <;> omega) ?_)))))))
  rw [List.nil_append]
  have er1 : rd l0 ((n : Int) + 1) = l0.getD (n + 1) 0 := by rw [show (n : Int) + 1 = ((n + 1 : Nat) : Int) by omega, rd_nat]
  rw [er1, rd_nat, show ((n : Int)).toNat = n by omega, show ((n : Int) + 1).toNat = n + 1 by omega]
  -- the list in three parts
  obtain ⟨p, a, b, r, rfl, hp⟩ : ∃ (p : List Int) (a b : Int) (r : List Int), l0 = p ++ a :: b :: r ∧ p.length = n := by
    refine ⟨l0.take n, l0[n]'(by omega), l0[n + 1]'(by omega), l0.drop (n + 2), ?_, by simp <;> omega⟩
    rw [← List.drop_eq_getElem_cons (by omega : n + 1 < l0.length), ← List.drop_eq_getElem_cons (by omega : n < l0.length), List.take_append_drop]
  have ga : (p ++ a :: b :: r).getD n 0 = a := by simp [List.getD_eq_getElem?_getD, ← hp]
  have gb : (p ++ a :: b :: r).getD (n + 1) 0 = b := by simp [List.getD_eq_getElem?_getD, ← hp]
  rw [ga, gb]
  have hset : (((p ++ a :: b :: r).set n b).set (n + 1) a) = p ++ b :: a :: r := by simp [List.set_append, ← hp]
  rw [hset]
  have hpb : ∀ x ∈ p ++ b :: a :: r, 0 ≤ x ∧ x ≤ 255 := fun x hx => hb x (by simp at hx ⊢; rcases hx with h | h | h | h <;> simp [h])
  have hlen : (p ++ b :: a :: r).length = (p ++ a :: b :: r).length := by simp
  refine Ev.bind (ss_sum _ hpb (by omega)) (Ev.bind (by_spec _ _ (by simp [ss_out])) (Ev.pos (by omega) (Ev.pos (by omega) (Ev.eq (Ev.now _) ?_))))
  by_cases hab : a = b
  · subst hab; simp
  · have hne := ss_swap (ss_fold (0, 0) p) (ss_in_fold _ _ (by unfold ss_in; simp)) a b (hb a (by simp)) (hb b (by simp)) r hab
    rw [← ss_fold_app, ← ss_fold_app] at hne
    simp [hne, hab]

end Go.Proofs.Ytancbigkdjbhnaa.Pure
