/- Words on nets in plain Lean: a set that a word leads to is where the ways end. Conditions: the net is good. -/
import Derived.Test.YtiiankjmeodjdaaPHMore
namespace Go.Proofs.Ytiiankjmeodjdaa.PHM
set_option linter.unusedVariables false
set_option linter.unusedSimpArgs false
open Go.RowKit Go.Proofs.Ytiiankjmeodjdaa.GH Go.Proofs.YtiiankjmeodjdaaW.PrintWords Go.Proofs.YtiiankjmeodjdaaW.PrintLast Go.Proofs.YtiiankjmeodjdaaW.PrintMore

/-- Ways through a net, by the symbols of a word. -/
inductive Way (arcs : List S27) : Nat → List Int → Nat → Prop
  | here (i : Nat) : Way arcs i [] i
  | free {a : S27} {w : List Int} {j : Nat} : a ∈ arcs → a.f1 < 0 → Way arcs a.f2.toNat w j → Way arcs a.f0.toNat w j
  | by_ {a : S27} {w : List Int} {j : Nat} : a ∈ arcs → 0 ≤ a.f1 → Way arcs a.f2.toNat w j → Way arcs a.f0.toNat (a.f1 :: w) j
theorem Way.trans {arcs : List S27} {i m j : Nat} {u v : List Int} (h : Way arcs i u m) (k : Way arcs m v j) : Way arcs i (u ++ v) j := by
  induction h with
  | here i => exact k
  | free h1 h2 _ ih => exact .free h1 h2 (ih k)
  | by_ h1 h2 _ ih => exact .by_ h1 h2 (ih k)
theorem passF_way {P : Nat → Prop} {arcs : List S27} (hP : ∀ a ∈ arcs, a.f1 < 0 → P a.f0.toNat → P a.f2.toNat) {S : Nat} (hS : ∀ j, S.testBit j = true → P j) {a : S27} (ha : a ∈ arcs) : ∀ j, (passF S a).testBit j = true → P j := by
  unfold passF
  split
  · rename_i h1
    split
    · rename_i h2
      intro j hj
      rw [Nat.testBit_or, Nat.testBit_two_pow, Bool.or_eq_true] at hj
      rcases hj with hj | hj
      · exact hS j hj
      · have : a.f2.toNat = j := by simpa using hj
        exact this ▸ hP a ha h1 (hS _ h2)
    · exact hS
  · exact hS
theorem passS_way {P : Nat → Prop} {arcs : List S27} (hP : ∀ a ∈ arcs, a.f1 < 0 → P a.f0.toNat → P a.f2.toNat) : ∀ (l : List S27), (∀ a ∈ l, a ∈ arcs) → ∀ {S : Nat}, (∀ j, S.testBit j = true → P j) → ∀ j, (passS l S).testBit j = true → P j
  | [], _, S, hS => hS
  | a :: l, hl, S, hS => passS_way hP l (fun x hx => hl x (List.mem_cons_of_mem _ hx)) (passF_way hP hS (hl a List.mem_cons_self))
theorem freeN_way {P : Nat → Prop} {arcs : List S27} (hP : ∀ a ∈ arcs, a.f1 < 0 → P a.f0.toNat → P a.f2.toNat) : ∀ (d : Nat) {S : Nat}, (∀ j, S.testBit j = true → P j) → ∀ j, (freeN arcs d S).testBit j = true → P j
  | 0, S, hS => hS
  | d + 1, S, hS => by
    unfold freeN
    split
    · exact hS
    · exact freeN_way hP d (passS_way hP arcs (fun _ h => h) hS)
theorem way_closed {arcs : List S27} {C : Nat} (hc : Closed arcs C) {i : Nat} {w : List Int} {j : Nat} (h : Way arcs i w j) : w = [] → C.testBit i = true → C.testBit j = true := by
  induction h with
  | here i => exact fun _ h => h
  | free h1 h2 _ ih => exact fun e h => ih e (hc _ h1 h2 h)
  | by_ h1 h2 _ ih => exact fun e => absurd e (by simp)
theorem free_iff {n k : Int} {arcs : List S27} {st f : Int} (h : GoodN n k arcs st f) {S : Nat} (hS : S < 2 ^ n.toNat) (j : Nat) : (freeS arcs S).testBit j = true ↔ ∃ i, S.testBit i = true ∧ Way arcs i [] j := by
  constructor
  · intro hj
    refine freeN_way (P := fun j => ∃ i, S.testBit i = true ∧ Way arcs i [] j) (arcs := arcs) ?_ 128 (S := S) (fun j hj => ⟨j, hj, .here j⟩) j hj
    rintro a ha h1 ⟨i, hi, hw⟩
    exact ⟨i, hi, by have := hw.trans (.free ha h1 (.here _)); simpa using this⟩
  · rintro ⟨i, hi, hw⟩
    exact way_closed (free_closed h hS) hw rfl (sub_free arcs 128 S i hi)
theorem step_iff (S : Nat) (s : Int) (j : Nat) : ∀ (arcs : List S27) (T : Nat), (arcs.foldl (stepF S s) T).testBit j = true ↔ T.testBit j = true ∨ ∃ a ∈ arcs, a.f1 = s ∧ S.testBit a.f0.toNat = true ∧ a.f2.toNat = j
  | [], T => by simp
  | a :: arcs, T => by
    rw [List.foldl_cons, step_iff S s j arcs]
    have e : (stepF S s T a).testBit j = true ↔ T.testBit j = true ∨ (a.f1 = s ∧ S.testBit a.f0.toNat = true ∧ a.f2.toNat = j) := by
      unfold stepF
      by_cases c1 : a.f1 = s
      · rw [if_pos c1]
        by_cases c2 : S.testBit a.f0.toNat = true
        · rw [if_pos c2, Nat.testBit_or, Nat.testBit_two_pow, Bool.or_eq_true, decide_eq_true_iff]
          simp [c1, c2]
        · rw [if_neg c2]
          simp [c2]
      · rw [if_neg c1]
        simp [c1]
    rw [e]
    constructor
    · rintro ((h | h) | ⟨x, hx, h⟩)
      · exact .inl h
      · exact .inr ⟨a, List.mem_cons_self, h⟩
      · exact .inr ⟨x, List.mem_cons_of_mem _ hx, h⟩
    · rintro (h | ⟨x, hx, h⟩)
      · exact .inl (.inl h)
      · rcases List.mem_cons.1 hx with rfl | hx
        · exact .inl (.inr h)
        · exact .inr ⟨x, hx, h⟩
theorem way_cons {arcs : List S27} {i j : Nat} {l : List Int} (h : Way arcs i l j) : ∀ {s : Int} {w : List Int}, l = s :: w → ∃ a ∈ arcs, a.f1 = s ∧ Way arcs i [] a.f0.toNat ∧ Way arcs a.f2.toNat w j := by
  induction h with
  | here i => exact fun e => absurd e (by simp)
  | free h1 h2 _ ih =>
    intro s w e
    obtain ⟨a, ha, h3, h4, h5⟩ := ih e
    exact ⟨a, ha, h3, .free h1 h2 h4, h5⟩
  | by_ h1 h2 h3 ih =>
    intro s w e
    injection e with e1 e2
    exact ⟨_, h1, e1, .here _, e2 ▸ h3⟩
theorem stN_iff {n k : Int} {arcs : List S27} {st f : Int} (h : GoodN n k arcs st f) {S : Nat} {s : Int} (hs : 0 ≤ s) (j : Nat) : (stN arcs S s).testBit j = true ↔ ∃ a ∈ arcs, a.f1 = s ∧ S.testBit a.f0.toNat = true ∧ Way arcs a.f2.toNat [] j := by
  unfold stN
  rw [free_iff h (stepS_lt h S s)]
  unfold stepS
  constructor
  · rintro ⟨i, hi, hw⟩
    rw [step_iff] at hi
    rcases hi with hi | ⟨a, ha, h1, h2, h3⟩
    · rw [Nat.zero_testBit] at hi
      exact absurd hi (by decide)
    · exact ⟨a, ha, h1, h2, h3 ▸ hw⟩
  · rintro ⟨a, ha, h1, h2, hw⟩
    exact ⟨a.f2.toNat, (step_iff _ _ _ _ _).2 (.inr ⟨a, ha, h1, h2, rfl⟩), hw⟩
theorem leads_iff {n k : Int} {arcs : List S27} {st f : Int} (h : GoodN n k arcs st f) : ∀ (w : List Int), (∀ s ∈ w, 0 ≤ s ∧ s < k) → ∀ {S : Nat}, S < 2 ^ n.toNat → ∀ j, (leadsN arcs (freeS arcs S) w).testBit j = true ↔ ∃ i, S.testBit i = true ∧ Way arcs i w j
  | [], _, S, hS, j => free_iff h hS j
  | s :: w, hw, S, hS, j => by
    have hs := hw s List.mem_cons_self
    show (leadsN arcs (stN arcs (freeS arcs S) s) w).testBit j = true ↔ _
    have e : stN arcs (freeS arcs S) s = freeS arcs (stepS arcs (freeS arcs S) s) := rfl
    rw [e, leads_iff h w (fun x hx => hw x (List.mem_cons_of_mem _ hx)) (stepS_lt h _ s)]
    constructor
    · rintro ⟨i, hi, hwy⟩
      unfold stepS at hi
      rw [step_iff] at hi
      rcases hi with hi | ⟨a, ha, h1, h2, h3⟩
      · rw [Nat.zero_testBit] at hi
        exact absurd hi (by decide)
      · obtain ⟨i0, hi0, hw0⟩ := (free_iff h hS _).1 h2
        subst h1
        subst h3
        exact ⟨i0, hi0, hw0.trans (.by_ ha hs.1 hwy)⟩
    · rintro ⟨i, hi, hwy⟩
      obtain ⟨a, ha, h1, h2, h3⟩ := way_cons hwy rfl
      refine ⟨a.f2.toNat, ?_, h3⟩
      unfold stepS
      exact (step_iff _ _ _ _ _).2 (.inr ⟨a, ha, h1, (free_iff h hS _).2 ⟨i, hi, h2⟩, rfl⟩)
/-- An arc turned round. -/
def turnA (a : S27) : S27 := ⟨a.f2, a.f1, a.f0⟩
theorem way_back {arcs : List S27} {i j : Nat} {w : List Int} (h : Way arcs i w j) : Way (arcs.map turnA) j w.reverse i := by
  induction h with
  | here i => exact .here i
  | free h1 h2 _ ih =>
    rename_i a w j _
    have h3 : turnA a ∈ arcs.map turnA := List.mem_map_of_mem h1
    have := ih.trans (Way.free h3 h2 (.here _))
    rw [List.append_nil] at this
    exact this
  | by_ h1 h2 _ ih =>
    rename_i a w j _
    have h3 : turnA a ∈ arcs.map turnA := List.mem_map_of_mem h1
    have := ih.trans (Way.by_ h3 h2 (.here _))
    rw [List.reverse_cons]
    exact this
theorem turn_turn (arcs : List S27) : (arcs.map turnA).map turnA = arcs := by
  rw [List.map_map]
  have : (turnA ∘ turnA : S27 → S27) = id := by
    funext a
    rfl
  rw [this, List.map_id]
theorem way_iff {arcs : List S27} {i j : Nat} {w : List Int} : Way (arcs.map turnA) j w.reverse i ↔ Way arcs i w j := by
  constructor
  · intro h
    have := way_back h
    rw [turn_turn, List.reverse_reverse] at this
    exact this
  · exact way_back
theorem goodN_back {n k : Int} {arcs : List S27} {st f : Int} (h : GoodN n k arcs st f) : GoodN n k (arcs.map turnA) f st := by
  refine ⟨h.n1, h.n7, h.k1, h.k3, by rw [List.length_map]; exact h.len, fun a ha => ?_, h.fin, h.st⟩
  obtain ⟨b, hb, rfl⟩ := List.mem_map.1 ha
  have := h.arc b hb
  exact ⟨this.t0, this.t1, this.f0, this.f1, this.s0, this.s1⟩
theorem and_zero {A B : Nat} : ¬ (A &&& B) = 0 ↔ ∃ j, A.testBit j = true ∧ B.testBit j = true := by
  constructor
  · intro h
    obtain ⟨j, hj⟩ := Nat.exists_testBit_of_ne_zero h
    rw [Nat.testBit_and, Bool.and_eq_true] at hj
    exact ⟨j, hj⟩
  · rintro ⟨j, h1, h2⟩ h
    have : (A &&& B).testBit j = true := by rw [Nat.testBit_and, h1, h2]; rfl
    rw [h, Nat.zero_testBit] at this
    exact absurd this (by decide)
theorem st_lt {n k : Int} {arcs : List S27} {st f : Int} (h : GoodN n k arcs st f) (s0 : 0 ≤ st) : st.toNat < 2 ^ n.toNat := by
  obtain ⟨ST, rfl⟩ := Int.eq_ofNat_of_zero_le s0
  have h1 := h.st
  rw [pow_cast] at h1
  exact Int.ofNat_lt.1 h1
/-- A word is taken just if a way leads from a first state to a last one. -/
theorem takes_iff {n k : Int} {arcs : List S27} {st f : Int} (h : GoodN n k arcs st f) (s0 : 0 ≤ st) {w : List Int} (hw : ∀ s ∈ w, 0 ≤ s ∧ s < k) : ¬ (setN arcs st w &&& f.toNat) = 0 ↔ ∃ i j, st.toNat.testBit i = true ∧ f.toNat.testBit j = true ∧ Way arcs i w j := by
  rw [and_zero]
  unfold setN
  constructor
  · rintro ⟨j, h1, h2⟩
    obtain ⟨i, hi, hwy⟩ := (leads_iff h w hw (st_lt h s0) j).1 h1
    exact ⟨i, j, hi, h2, hwy⟩
  · rintro ⟨i, j, hi, h2, hwy⟩
    exact ⟨j, (leads_iff h w hw (st_lt h s0) j).2 ⟨i, hi, hwy⟩, h2⟩
theorem takes_back {n k : Int} {arcs : List S27} {st f : Int} (h : GoodN n k arcs st f) (s0 : 0 ≤ st) (f0 : 0 ≤ f) {w : List Int} (hw : ∀ s ∈ w, 0 ≤ s ∧ s < k) : decide (¬ (setN (arcs.map turnA) f w.reverse &&& st.toNat) = 0) = decide (¬ (setN arcs st w &&& f.toNat) = 0) := by
  rw [decide_eq_decide, takes_iff (goodN_back h) f0 (fun s hs => hw s (List.mem_reverse.1 hs)), takes_iff h s0 hw]
  constructor
  · rintro ⟨i, j, h1, h2, h3⟩
    exact ⟨j, i, h2, h1, way_iff.1 h3⟩
  · rintro ⟨i, j, h1, h2, h3⟩
    exact ⟨j, i, h2, h1, way_iff.2 h3⟩
end Go.Proofs.Ytiiankjmeodjdaa.PHM
