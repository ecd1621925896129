/- The law BracketCycle, as plain Lean: the cycle lemma: of a list of brackets with one more that opens, just one turn has more opened than closed at each place, and bracket.Turn tells it. Conditions: none beyond the kinds of the arguments. -/
import Derived.Test.YtancbigkdjbhnaaGA5
import Derived.Test.YtancbigkdjbhnaaEv
namespace Go.Proofs.Ytancbigkdjbhnaa.Pure
set_option linter.unusedVariables false
set_option linter.unusedSimpArgs false
open Go.RowKit Go.Proofs.Ytancbigkdjbhnaa.GA Go.Proofs.YtancbigkdjbhnaaW.PrintWords Go.Proofs.YtancbigkdjbhnaaW.PrintLast

def bv (b : Bool) : Int := if b then 1 else -1
def sm : List Bool → Int
  | [] => 0
  | b :: l => bv b + sm l
theorem bv_bd (b : Bool) : -1 ≤ bv b ∧ bv b ≤ 1 := by cases b <;> decide
theorem sm_app : ∀ a b : List Bool, sm (a ++ b) = sm a + sm b
  | [], b => by simp [sm]
  | x :: a, b => by simp only [List.cons_append, sm, sm_app a b]; omega
theorem sm_bd : ∀ l : List Bool, -(l.length : Int) ≤ sm l ∧ sm l ≤ l.length
  | [] => by simp [sm]
  | b :: l => by have := sm_bd l; have := bv_bd b; simp only [sm, List.length_cons]; omega
/-- The depth ahead of place i. -/
def ht (l : List Bool) (i : Nat) : Int := sm (l.take i)
theorem ht_succ (l : List Bool) (i : Nat) (h : i < l.length) : ht l (i + 1) = ht l i + bv (l.getD i false) := by
  unfold ht
  rw [List.take_succ_eq_append_getElem h, sm_app]
  simp [sm, List.getD_eq_getElem?_getD, List.getElem?_eq_getElem h]
theorem ht_bd (l : List Bool) (i : Nat) : -(l.length : Int) ≤ ht l i ∧ ht l i ≤ l.length := by
  have := sm_bd (l.take i)
  have h2 : (l.take i).length ≤ l.length := by simp <;> omega
  unfold ht; omega
theorem ht_zero (l : List Bool) : ht l 0 = 0 := by simp [ht, sm]
/-- at: the last place where it is deepest down, of the first i. -/
def lowest (l : List Bool) (i : Nat) (at_ : Nat) : Prop := at_ ≤ i ∧ (0 < i → at_ < i) ∧ ∀ m, m < i → ht l at_ ≤ ht l m ∧ (at_ < m → ht l at_ < ht l m)
theorem turn_loop (l : List Bool) (hl : l.length ≤ 60) : ∀ (d i at_ : Nat), i + d = l.length → lowest l i at_ →
    ∃ r : Nat, lowest l l.length r ∧ Ev (fun k => bracket_Turn.l0 k (ht l i) (ht l at_) (at_ : Int) l (l.length : Int) (i : Int)) (if ht l l.length = 1 then ((r : Int), 0) else (0, 3)) := by
  intro d
  induction d with
  | zero =>
    intro i at_ hi h
    obtain rfl : i = l.length := by omega
    refine ⟨at_, h, Ev.step (fun k => by rw [bracket_Turn.l0]) (Ev.neg (by omega) ?_)⟩
    by_cases e : ht l l.length = 1
    · exact Ev.pos e (Ev.eq (Ev.now _) (if_pos e).symm)
    · exact Ev.neg e (Ev.eq (Ev.now _) (if_neg e).symm)
  | succ d ih =>
    intro i at_ hi h
    have hs := ht_succ l i (by omega)
    have hb := ht_bd l i
    by_cases c : ht l i ≤ ht l at_
    · obtain ⟨r, hr, he⟩ := ih (i + 1) i (by omega) ⟨by omega, fun _ => by omega, fun m hm => by
        rcases Nat.lt_or_ge m i with h1 | h1
        · exact ⟨Int.le_trans c (h.2.2 m h1).1, fun h2 => by omega⟩
        · obtain rfl : m = i := by omega
          exact ⟨Int.le_refl _, fun h2 => by omega⟩⟩
      refine ⟨r, hr, Ev.step (fun k => by rw [bracket_Turn.l0]) (Ev.pos (by omega) (Ev.pos (by omega) (Ev.pos (by omega) (Ev.pos c ?_))))⟩
      rw [rdOf_nat, w64 (n := (i : Int) + 1) (by omega) (by omega)]
      cases hx : l.getD i false with
      | true => rw [hx] at hs; refine Ev.pos rfl ?_; rw [w64 (by omega) (by omega), show ht l i + 1 = ht l (i + 1) from hs.symm]; exact he
      | false => rw [hx] at hs; refine Ev.neg (by simp) ?_; rw [w64 (by omega) (by omega), show ht l i - 1 = ht l (i + 1) from hs.symm]; exact he
    · obtain ⟨r, hr, he⟩ := ih (i + 1) at_ (by omega) ⟨by have := h.1; omega, fun _ => by have := h.1; omega, fun m hm => by
        rcases Nat.lt_or_ge m i with h1 | h1
        · exact h.2.2 m h1
        · obtain rfl : m = i := by omega
          exact ⟨by omega, fun h2 => by omega⟩⟩
      refine ⟨r, hr, Ev.step (fun k => by rw [bracket_Turn.l0]) (Ev.pos (by omega) (Ev.pos (by omega) (Ev.pos (by omega) (Ev.neg c ?_))))⟩
      rw [rdOf_nat, w64 (n := (i : Int) + 1) (by omega) (by omega)]
      cases hx : l.getD i false with
      | true => rw [hx] at hs; refine Ev.pos rfl ?_; rw [w64 (by omega) (by omega), show ht l i + 1 = ht l (i + 1) from hs.symm]; exact he
      | false => rw [hx] at hs; refine Ev.neg (by simp) ?_; rw [w64 (by omega) (by omega), show ht l i - 1 = ht l (i + 1) from hs.symm]; exact he
theorem deep_loop (l : List Bool) (hl : l.length ≤ 60) : ∀ (d i : Nat), i + d = l.length → Ev (fun k => coppicerref_Deep.l0 k (ht l i) l (l.length : Int) (i : Int)) (ht l l.length) := by
  intro d
  induction d with
  | zero =>
    intro i hi
    obtain rfl : i = l.length := by omega
    exact Ev.step (fun k => by rw [coppicerref_Deep.l0]) (Ev.neg (by omega) (Ev.now _))
  | succ d ih =>
    intro i hi
    have hs := ht_succ l i (by omega)
    have hb := ht_bd l i
    refine Ev.step (fun k => by rw [coppicerref_Deep.l0]) (Ev.pos (by omega) (Ev.pos (by omega) (Ev.pos (by omega) ?_)))
    rw [rdOf_nat, w64 (n := (i : Int) + 1) (by omega) (by omega)]
    have he := ih (i + 1) (by omega)
    cases hx : l.getD i false with
    | true => rw [hx] at hs; refine Ev.pos rfl ?_; rw [w64 (by omega) (by omega), show ht l i + 1 = ht l (i + 1) from hs.symm]; exact he
    | false => rw [hx] at hs; refine Ev.neg (by simp) ?_; rw [w64 (by omega) (by omega), show ht l i - 1 = ht l (i + 1) from hs.symm]; exact he
def aboveB : Int → List Bool → Bool
  | _, [] => true
  | x, b :: r => decide (1 ≤ x + bv b) && aboveB (x + bv b) r
theorem aboveB_iff : ∀ (r : List Bool) (x : Int), aboveB x r = true ↔ ∀ m, 0 < m → m ≤ r.length → 1 ≤ x + sm (r.take m)
  | [], x => by simp [aboveB]; omega
  | b :: r, x => by
    simp only [aboveB, Bool.and_eq_true, decide_eq_true_iff, aboveB_iff r (x + bv b)]
    constructor
    · rintro ⟨h1, h2⟩ m hm hl
      match m, hm with
      | m + 1, _ =>
        simp only [List.take_succ_cons, sm]
        rcases Nat.eq_zero_or_pos m with rfl | h
        · simp only [List.take_zero, sm]; omega
        · have := h2 m h (by simpa using hl); omega
    · intro h
      refine ⟨?_, fun m hm hl => ?_⟩
      · have := h 1 (by omega) (by simp)
        simp only [List.take_succ_cons, List.take_zero, sm] at this
        omega
      · have := h (m + 1) (by omega) (by simpa using hl)
        simp only [List.take_succ_cons, sm] at this
        omega
theorem above_loop (l : List Bool) (hl : l.length ≤ 60) : ∀ (d i : Nat), i + d = l.length → Ev (fun k => coppicerref_Above.l0 k (ht l i) l (l.length : Int) (i : Int)) (aboveB (ht l i) (l.drop i)) := by
  intro d
  induction d with
  | zero =>
    intro i hi
    refine Ev.step (fun k => by rw [coppicerref_Above.l0]) (Ev.neg (by omega) (Ev.eq (Ev.now _) ?_))
    rw [List.drop_eq_nil_of_le (by omega)]; rfl
  | succ d ih =>
    intro i hi
    have hs := ht_succ l i (by omega)
    have hb := ht_bd l i
    refine Ev.step (fun k => by rw [coppicerref_Above.l0]) (Ev.pos (by omega) (Ev.pos (by omega) (Ev.pos (by omega) ?_)))
    rw [rdOf_nat, w64 (n := (i : Int) + 1) (by omega) (by omega), List.drop_eq_getElem_cons (by omega : i < l.length)]
    have e : l[i]'(by omega) = l.getD i false := by simp [List.getD_eq_getElem?_getD, List.getElem?_eq_getElem (by omega : i < l.length)]
    rw [e]
    have he := ih (i + 1) (by omega)
    cases hx : l.getD i false with
    | true =>
      rw [hx] at hs; refine Ev.pos rfl ?_
      have hs' : ht l i + 1 = ht l (i + 1) := hs.symm
      rw [w64 (by omega) (by omega), hs']
      simp only [aboveB]
      rw [← hs]
      by_cases c : ht l (i + 1) < 1
      · exact Ev.pos c (Ev.eq (Ev.now _) (by simp; intro h; omega))
      · refine Ev.neg c (Ev.eq he ?_)
        rw [show decide (1 ≤ ht l (i + 1)) = true by simp <;> omega]; simp
    | false =>
      rw [hx] at hs; refine Ev.neg (by simp) ?_
      have hs' : ht l i - 1 = ht l (i + 1) := hs.symm
      rw [w64 (by omega) (by omega), hs']
      simp only [aboveB]
      rw [← hs]
      by_cases c : ht l (i + 1) < 1
      · exact Ev.pos c (Ev.eq (Ev.now _) (by simp; intro h; omega))
      · refine Ev.neg c (Ev.eq he ?_)
        rw [show decide (1 ≤ ht l (i + 1)) = true by simp <;> omega]; simp
/-- The depths of a turned list. -/
theorem ht_turn_lo (l : List Bool) (k m : Nat) (hk : k ≤ l.length) (hm : m ≤ l.length - k) : sm ((l.drop k ++ l.take k).take m) = ht l (k + m) - ht l k := by
  rw [List.take_append_of_le_length (by simp <;> omega)]
  unfold ht
  rw [List.take_add, sm_app]; omega
theorem ht_turn_hi (l : List Bool) (k m : Nat) (hk : k ≤ l.length) (hm : m ≤ k) : sm ((l.drop k ++ l.take k).take (l.length - k + m)) = ht l l.length - ht l k + ht l m := by
  rw [List.take_append, List.take_of_length_le (by simp), sm_app]
  have e : l.length - k + m - (l.drop k).length = m := by simp
  rw [e, List.take_take, Nat.min_eq_left hm]
  unfold ht
  have := congrArg sm (List.take_append_drop k l)
  rw [sm_app] at this
  rw [List.take_length]; omega
theorem cycle (l : List Bool) (n k : Nat) (h : lowest l l.length n) (h1 : ht l l.length = 1) (hk : k < l.length) : aboveB 0 (l.drop k ++ l.take k) = decide (k = n) := by
  obtain ⟨_, hn, hlow⟩ := h
  have hn := hn (by omega)
  rw [Bool.eq_iff_iff, aboveB_iff, decide_eq_true_iff]
  have z := hlow 0 (by omega)
  rw [ht_zero] at z
  constructor
  · intro ha
    rcases Nat.lt_trichotomy k n with c | c | c
    · have := ha (n - k) (by omega) (by simp <;> omega)
      rw [ht_turn_lo l k _ (by omega) (by omega), show k + (n - k) = n by omega] at this
      have := hlow k (by omega)
      omega
    · exact c
    · rcases Nat.eq_zero_or_pos n with rfl | hp
      · have e := ha (l.length - k) (by omega) (by simp <;> omega)
        rw [ht_turn_lo l k _ (by omega) (by omega), show k + (l.length - k) = l.length by omega, h1] at e
        have := (hlow k hk).2 c
        rw [ht_zero] at this
        omega
      · have e := ha (l.length - k + n) (by omega) (by simp <;> omega)
        rw [ht_turn_hi l k n (by omega) (by omega), h1] at e
        have := (hlow k hk).2 c
        omega
  · rintro rfl m hm hl
    have hl' : m ≤ l.length := by simp only [List.length_append, List.length_drop, List.length_take] at hl; omega
    rcases Nat.lt_or_ge (l.length - k) m with c | c
    · obtain ⟨t, rfl⟩ : ∃ t, m = l.length - k + t := ⟨m - (l.length - k), by omega⟩
      rw [ht_turn_hi l k t (by omega) (by omega), h1]
      have := (hlow t (by omega)).1
      omega
    · rw [ht_turn_lo l k m (by omega) c]
      rcases Nat.lt_or_ge (k + m) l.length with c2 | c2
      · have := (hlow (k + m) c2).2 (by omega); omega
      · obtain rfl : m = l.length - k := by omega
        rw [show k + (l.length - k) = l.length by omega, h1]; omega
theorem BracketCycle : coppicerkeep_BracketCycle.Pure := by
  intro l k ⟨_, hlen, _⟩ hk
  have hk := wf_i64 hk
  refine Ev.rounds ?_
  unfold coppicerkeep_BracketCycle.f bracket_Turn.f
  by_cases hl : (l.length : Int) > 60
  · refine Ev.bind (Ev.pos hl (Ev.now _)) (Ev.pos hl ?_)
    exact Ev.step (fun k => by rw [coppicerkeep_BracketCycle.j0]) (Ev.pos rfl (Ev.eq (Ev.now _) (by decide)))
  · obtain ⟨r, hr, he⟩ := turn_loop l (by omega) l.length 0 0 (by omega) ⟨by omega, fun h => by omega, fun m hm => by omega⟩
    rw [ht_zero] at he
    refine Ev.bind (Ev.neg hl he) (Ev.neg hl ?_)
    have hd := deep_loop l (by omega) l.length 0 (by omega)
    rw [ht_zero] at hd
    refine Ev.bind (show Ev (fun k => coppicerref_Deep.f k l) _ from hd) ?_
    by_cases c : ht l l.length = 1
    · rw [if_pos c]
      have hpos : 0 < l.length := by
        rcases Nat.eq_zero_or_pos l.length with h | h
        · rw [h, ht_zero] at c; omega
        · exact h
      have hrl := hr.2.1 hpos
      refine Ev.step (fun k => by rw [coppicerkeep_BracketCycle.j0]) (Ev.neg (by simp [c]) (Ev.pos rfl (Ev.neg (by simp only; omega) ?_)))
      refine Ev.step (fun k => by rw [coppicerkeep_BracketCycle.j1]) (Ev.neg (by simp <;> omega) ?_)
      by_cases c1 : k < 0
      · exact Ev.pos c1 (Ev.now _)
      refine Ev.neg c1 ?_
      by_cases c2 : k ≥ (l.length : Int)
      · exact Ev.pos c2 (Ev.now _)
      obtain ⟨m, rfl⟩ : ∃ m : Nat, k = m := ⟨k.toNat, by omega⟩
      refine Ev.neg c2 (Ev.let_ (Ev.pos (by omega) (Ev.pos (by omega) (Ev.pos (by simp <;> omega) (Ev.let_ (Ev.pos (by simp <;> omega) ?_))))))
      have ha := above_loop (l.drop m ++ l.take m) (by simp <;> omega) _ 0 (Nat.zero_add _)
      rw [ht_zero, List.drop_zero] at ha
      simp only [List.nil_append, Int.toNat_natCast]
      refine Ev.bind (show Ev (fun k => coppicerref_Above.f k (l.drop m ++ l.take m)) _ from ha) (Ev.eq (Ev.now _) ?_)
      rw [cycle l r m hr c (by omega)]
      by_cases e : m = r
      · subst e; simp
      · have : ¬ (m : Int) = r := by omega
        simp [e, this]
    · rw [if_neg c]
      exact Ev.step (fun k => by rw [coppicerkeep_BracketCycle.j0]) (Ev.pos (by simp [c]) (Ev.eq (Ev.now _) (by decide)))
end Go.Proofs.Ytancbigkdjbhnaa.Pure
