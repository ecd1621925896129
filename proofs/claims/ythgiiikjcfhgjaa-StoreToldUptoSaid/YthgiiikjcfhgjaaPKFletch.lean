/- Fletcher's sum over lists, in plain Lean. Conditions: none. -/
import Derived.Test.YthgiiikjcfhgjaaEv
import Derived.Laws.BitsAllLaws
import Derived.Test.YthgiiikjcfhgjaaGK4
import Derived.Test.YthgiiikjcfhgjaaGK10
namespace Go.Proofs.Ythgiiikjcfhgjaa.PKM
set_option linter.unusedVariables false
set_option linter.unusedSimpArgs false
open Go.RowKit Go.Proofs.Ythgiiikjcfhgjaa.GK Go.Proofs.YthgiiikjcfhgjaaW.PrintWords Go.Proofs.YthgiiikjcfhgjaaW.PrintLast Go.Proofs.YthgiiikjcfhgjaaW.PrintMore

def ss_step (p : Int × Int) (c : Int) : Int × Int := ((p.1 + c) % 257, (p.2 + (p.1 + c) % 257) % 257)
def ss_fold (p : Int × Int) (l : List Int) : Int × Int := l.foldl ss_step p
def ss_out (p : Int × Int) : List Int := [p.1 % 256, p.1 / 256 % 256, p.2 % 256, p.2 / 256 % 256]
def ss_in (p : Int × Int) : Prop := 0 ≤ p.1 ∧ p.1 ≤ 256 ∧ 0 ≤ p.2 ∧ p.2 ≤ 256
theorem ss_in_step (p : Int × Int) (c : Int) : ss_in (ss_step p c) := by unfold ss_in ss_step; simp only; omega
theorem ss_in_fold : ∀ (l : List Int) (p : Int × Int), ss_in p → ss_in (ss_fold p l)
  | [], _, h => h
  | c :: l, p, _ => ss_in_fold l (ss_step p c) (ss_in_step p c)
theorem ss_two (p : Int × Int) : ((store_two.f ([] : List Int) p.1).bind fun t => (store_two.f t p.2).bind fun t2 => some t2) = some (ss_out p) := by
  unfold store_two.f ss_out; simp
theorem ss_loop (xs : List Int) (hb : ∀ x ∈ xs, 0 ≤ x ∧ x ≤ 255) (hl : xs.length ≤ 140737488355328) : ∀ (d i : Nat) (p : Int × Int), i + d = xs.length → ss_in p →
    Ev (fun k => store_Sum.l0 k p.1 p.2 xs (xs.length : Int) (i : Int)) (ss_out (ss_fold p (xs.drop i))) := by
  intro d
  induction d with
  | zero =>
    intro i p hi hp
    refine Ev.step (fun k => by rw [store_Sum.l0]) ?_
    refine Ev.neg (by omega) ?_
    rw [List.drop_eq_nil_of_le (by omega)]
    exact Ev.val (ss_two p)
  | succ d ih =>
    intro i p hi hp
    refine Ev.step (fun k => by rw [store_Sum.l0]) ?_
    refine Ev.pos (by omega) (Ev.pos (by omega) (Ev.pos (by omega) ?_))
    have hc := hb _ (getD_mem (xs := xs) (i := i) (d := 0) (by omega))
    obtain ⟨h1, h2, h3, h4⟩ := hp
    rw [rd_nat, w64 (n := xs.getD i 0) (by omega) (by omega), w64 (n := p.1 + xs.getD i 0) (by omega) (by omega), tm (by omega), w64 (by omega) (by omega), tm (by omega), w64 (by omega) (by omega)]
    have := ih (i + 1) (ss_step p (xs.getD i 0)) (by omega) (ss_in_step _ _)
    rw [List.drop_eq_getElem_cons (by omega : i < xs.length)]
    have e : xs[i] = xs.getD i 0 := by simp [List.getD_eq_getElem?_getD, List.getElem?_eq_getElem (by omega : i < xs.length)]
    rw [e]
    exact this
theorem ss_sum (xs : List Int) (hb : ∀ x ∈ xs, 0 ≤ x ∧ x ≤ 255) (hl : xs.length ≤ 140737488355328) : Ev (fun k => store_Sum.f k xs) (ss_out (ss_fold (0, 0) xs)) := by
  unfold store_Sum.f
  exact ss_loop xs hb hl xs.length 0 (0, 0) (by omega) (by unfold ss_in; simp)
/-- coppicerref.Bytes, of lists of equal length. -/
theorem by_loop (a b : List Int) (hl : a.length = b.length) (hm : a.length ≤ 140737488355328) : ∀ (d i : Nat), i + d = a.length → Ev (fun k => coppicerref_Bytes.l0 k a b (i : Int)) (decide (a.drop i = b.drop i)) := by
  intro d
  induction d with
  | zero =>
    intro i hi
    refine Ev.step (fun k => by rw [coppicerref_Bytes.l0]) ?_
    refine Ev.neg (by omega) (Ev.eq (Ev.now true) ?_)
    rw [List.drop_eq_nil_of_le (by omega), List.drop_eq_nil_of_le (by omega)]; simp
  | succ d ih =>
    intro i hi
    refine Ev.step (fun k => by rw [coppicerref_Bytes.l0]) ?_
    refine Ev.pos (by omega) (Ev.pos (by omega) (Ev.pos (by omega) ?_))
    have ha : a[i]'(by omega) = a.getD i 0 := by simp [List.getD_eq_getElem?_getD, List.getElem?_eq_getElem (by omega : i < a.length)]
    have hb : b[i]'(by omega) = b.getD i 0 := by simp [List.getD_eq_getElem?_getD, List.getElem?_eq_getElem (by omega : i < b.length)]
    rw [List.drop_eq_getElem_cons (by omega : i < a.length), List.drop_eq_getElem_cons (by omega : i < b.length), ha, hb, rd_nat, rd_nat, w64 (by omega) (by omega)]
    by_cases h : a.getD i 0 = b.getD i 0
    · refine Ev.pos h (Ev.eq (ih (i + 1) (by omega)) ?_)
      rw [h]; simp
    · refine Ev.neg h (Ev.eq (Ev.now false) ?_)
      simp only [List.cons.injEq, h, false_and, decide_false]
theorem by_spec (a b : List Int) (hm : a.length ≤ 140737488355328) : Ev (fun k => coppicerref_Bytes.f k a b) (decide (a = b)) := by
  unfold coppicerref_Bytes.f
  by_cases h : a.length = b.length
  · refine Ev.pos (by omega) (Ev.eq (by_loop a b h hm a.length 0 (by omega)) (by simp))
  · refine Ev.neg (by omega) (Ev.eq (Ev.now false) ?_)
    have : a ≠ b := fun e => h (by rw [e])
    simp [this]
theorem ss_step_inj {p q : Int × Int} (hp : ss_in p) (hq : ss_in q) (c : Int) (h : ss_step p c = ss_step q c) : p = q := by
  obtain ⟨x, y⟩ := p
  obtain ⟨x', y'⟩ := q
  obtain ⟨p1, p2, p3, p4⟩ := hp
  obtain ⟨q1, q2, q3, q4⟩ := hq
  simp only [ss_step, Prod.mk.injEq] at h p1 p2 p3 p4 q1 q2 q3 q4
  obtain ⟨h1, h2⟩ := h
  have e : x = x' := by omega
  subst e
  have : y = y' := by omega
  subst this
  rfl
theorem ss_fold_inj : ∀ (l : List Int) {p q : Int × Int}, ss_in p → ss_in q → ss_fold p l = ss_fold q l → p = q
  | [], _, _, _, _, h => h
  | c :: l, p, q, hp, hq, h => ss_step_inj hp hq c (ss_fold_inj l (ss_in_step p c) (ss_in_step q c) h)
theorem ss_out_inj {p q : Int × Int} (hp : ss_in p) (hq : ss_in q) (h : ss_out p = ss_out q) : p = q := by
  obtain ⟨x, y⟩ := p
  obtain ⟨x', y'⟩ := q
  obtain ⟨p1, p2, p3, p4⟩ := hp
  obtain ⟨q1, q2, q3, q4⟩ := hq
  simp only [ss_out, List.cons.injEq, and_true] at h p1 p2 p3 p4 q1 q2 q3 q4
  obtain ⟨h1, h2, h3, h4⟩ := h
  have e : x = x' := by omega
  have e' : y = y' := by omega
  rw [e, e']
/-- FLETCHER: two neighbours changed are told. -/
theorem ss_told {p : Int × Int} (hp : ss_in p) {a b a' b' : Int} (ha : 0 ≤ a ∧ a ≤ 255) (hb : 0 ≤ b ∧ b ≤ 255) (ha' : 0 ≤ a' ∧ a' ≤ 255) (hb' : 0 ≤ b' ∧ b' ≤ 255) (r : List Int)
    (h : ss_out (ss_fold p (a :: b :: r)) = ss_out (ss_fold p (a' :: b' :: r))) : a = a' ∧ b = b' := by
  have i1 := ss_in_step (ss_step p a) b
  have i2 := ss_in_step (ss_step p a') b'
  have e := ss_fold_inj r i1 i2 (ss_out_inj (ss_in_fold r _ i1) (ss_in_fold r _ i2) h)
  obtain ⟨x, y⟩ := p
  obtain ⟨p1, p2, p3, p4⟩ := hp
  simp only [ss_step, Prod.mk.injEq] at e p1 p2 p3 p4
  obtain ⟨h1, h2⟩ := e
  generalize hu : (x + a) % 257 = u at *
  generalize hu' : (x + a') % 257 = u' at *
  generalize hv : (u + b) % 257 = v at *
  have k1 : (y + u) % 257 = (y + u') % 257 := by omega
  have k2 : u = u' := by omega
  have k3 : a = a' := by omega
  exact ⟨k3, by omega⟩
theorem ss_fold_app (p : Int × Int) (l r : List Int) : ss_fold p (l ++ r) = ss_fold (ss_fold p l) r := List.foldl_append
theorem xor_byte {v x : Int} (hv : 0 ≤ v ∧ v ≤ 255) (hx : 0 ≤ x ∧ x ≤ 255) : (0 ≤ Go.bits .xor .u8 v x ∧ Go.bits .xor .u8 v x ≤ 255) ∧ (Go.bits .xor .u8 v x = v ↔ x = 0) := by
  rw [u8_xor v x hv.1 (by omega) hx.1 (by omega)]
  have hlt : v.toNat ^^^ x.toNat < 2 ^ 8 := Nat.xor_lt_two_pow (by omega) (by omega)
  refine ⟨⟨by omega, by omega⟩, ⟨fun h => ?_, fun h => ?_⟩⟩
  · have h2 : v.toNat ^^^ x.toNat = v.toNat := by omega
    have h3 : v.toNat ^^^ (v.toNat ^^^ x.toNat) = v.toNat ^^^ v.toNat := by rw [h2]
    rw [← Nat.xor_assoc, Nat.xor_self, Nat.zero_xor] at h3
    omega
  · subst h
    simp
    omega

end Go.Proofs.Ythgiiikjcfhgjaa.PKM
