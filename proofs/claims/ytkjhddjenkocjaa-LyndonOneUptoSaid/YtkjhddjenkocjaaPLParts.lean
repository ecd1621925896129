/- Lyndon words, as plain Lean: lyndon.Parts tells the low words, none less than the next one, that make the word. -/
import Derived.Test.YtkjhddjenkocjaaPLDuval
import Derived.Test.YtkjhddjenkocjaaGL4
namespace Go.Proofs.Ytkjhddjenkocjaa.PureL
set_option linter.unusedVariables false
set_option linter.unusedSimpArgs false
open Go.RowKit Go.Proofs.Ytkjhddjenkocjaa.GL Go.Proofs.YtkjhddjenkocjaaW.PrintWords Go.Proofs.YtkjhddjenkocjaaW.PrintLast

/-- A scan from a on has come to e with the period p. -/
structure Scan (w : List Int) (a p e : Nat) : Prop where
  p0 : 0 < p
  pe : a + p ≤ e
  el : e ≤ w.length
  lyn : Lyn ((w.drop a).take p)
  per : Per (w.drop a) p (e - a)
def Stop (w : List Int) (p e : Nat) : Prop := e = w.length ∨ w.getD e 0 < w.getD (e - p) 0
theorem scan_one {w : List Int} {a : Nat} (h : a < w.length) : Scan w a 1 (a + 1) := by
  refine ⟨by omega, by omega, by omega, ⟨by rw [List.length_take, List.length_drop]; omega, fun j h1 h2 => ?_⟩, fun j h1 h2 => by omega⟩
  rw [List.length_take, List.length_drop] at h2
  omega
theorem scan_same {w : List Int} {a p e : Nat} (s : Scan w a p e) (he : e < w.length) (h : w.getD (e - p) 0 = w.getD e 0) : Scan w a p (e + 1) := by
  have := s.pe; have := s.p0
  refine ⟨s.p0, by omega, by omega, s.lyn, ?_⟩
  rw [show e + 1 - a = e - a + 1 by omega]
  refine per_more s.per ?_
  rw [getD_drop, getD_drop, show a + (e - a - p) = e - p by omega, show a + (e - a) = e by omega]
  exact h
theorem scan_less {w : List Int} {a p e : Nat} (s : Scan w a p e) (he : e < w.length) (h : w.getD (e - p) 0 < w.getD e 0) : Scan w a (e + 1 - a) (e + 1) := by
  have := s.pe; have := s.p0
  refine ⟨by omega, by omega, by omega, ?_, fun j h1 h2 => by omega⟩
  have h2 := duval_less (z := w.drop a) (p := p) (n := e - a) s.p0 s.lyn s.per (by omega) (by rw [List.length_drop]; omega) (by
    rw [getD_drop, getD_drop, show a + (e - a - p) = e - p by omega, show a + (e - a) = e by omega]
    exact h)
  rw [show e - a + 1 = e + 1 - a by omega] at h2
  exact h2
section
variable {w : List Int} (hw : w.length ≤ 60)
include hw
theorem parts_l1 (acc : List (List Int)) (a : Nat) : ∀ (d e p : Nat), e + d = w.length → Scan w a p e → ∃ p' e', Scan w a p' e' ∧ Stop w p' e' ∧ ∀ R, Ev (fun q => lyndon_Parts.l2 q w acc (a : Int) ((e' - p' : Nat) : Int) (p' : Int)) R → Ev (fun q => lyndon_Parts.l1 q w acc (a : Int) ((e - p : Nat) : Int) (e : Int)) R := by
  intro d
  induction d with
  | zero =>
    intro e p he s
    have := s.pe; have := s.p0
    refine ⟨p, e, s, .inl (by omega), fun R hR => ?_⟩
    refine Ev.step (fun q => by rw [lyndon_Parts.l1]) (Ev.neg (by omega) (Ev.step (fun q => by rw [lyndon_Parts.j2]) (Ev.neg (by decide) ?_)))
    rw [w64 (by omega) (by omega), show (e : Int) - ((e - p : Nat) : Int) = (p : Int) by omega]
    exact hR
  | succ d ih =>
    intro e p he s
    have := s.pe; have := s.p0
    have pre : ∀ {R : List (List Int) × Int}, Ev (fun q => lyndon_Parts.j2 q w acc (a : Int) ((e - p : Nat) : Int) (e : Int) (decide (w.getD (e - p) 0 ≤ w.getD e 0))) R → Ev (fun q => lyndon_Parts.l1 q w acc (a : Int) ((e - p : Nat) : Int) (e : Int)) R := by
      intro R h
      refine Ev.step (fun q => by rw [lyndon_Parts.l1]) (Ev.pos (by omega) (Ev.pos (by omega) (Ev.pos (by omega) (Ev.pos (by omega) ?_))))
      rw [rd_nat, rd_nat]
      exact h
    by_cases c : w.getD (e - p) 0 ≤ w.getD e 0
    · have pre2 : ∀ {R : List (List Int) × Int}, Ev (fun q => if w.getD (e - p) 0 < w.getD e 0 then (lyndon_Parts.l1 q w acc (a : Int) (a : Int) ((e + 1 : Nat) : Int)) else (lyndon_Parts.l1 q w acc (a : Int) ((e + 1 - p : Nat) : Int) ((e + 1 : Nat) : Int))) R → Ev (fun q => lyndon_Parts.l1 q w acc (a : Int) ((e - p : Nat) : Int) (e : Int)) R := by
        intro R h
        refine pre (Ev.step (fun q => by rw [lyndon_Parts.j2]) (Ev.pos (decide_eq_true c) ?_))
        rw [w64 (n := ((e - p : Nat) : Int) + 1) (by omega) (by omega), w64 (n := ((e - p : Nat) : Int) + 1 - 1) (by omega) (by omega), w64 (n := (e : Int) + 1) (by omega) (by omega), show ((e - p : Nat) : Int) + 1 - 1 = ((e - p : Nat) : Int) by omega, rd_nat, rd_nat, show ((e - p : Nat) : Int) + 1 = ((e + 1 - p : Nat) : Int) by omega]
        exact Ev.pos (by omega) (Ev.pos (by omega) (Ev.pos (by omega) (Ev.pos (by omega) h)))
      by_cases c2 : w.getD (e - p) 0 < w.getD e 0
      · obtain ⟨p', e', s1, s2, s3⟩ := ih (e + 1) (e + 1 - a) (by omega) (scan_less s (by omega) c2)
        refine ⟨p', e', s1, s2, fun R hR => pre2 (Ev.pos c2 ?_)⟩
        have := s3 R hR
        rw [show e + 1 - (e + 1 - a) = a by omega] at this
        exact this
      · obtain ⟨p', e', s1, s2, s3⟩ := ih (e + 1) p (by omega) (scan_same s (by omega) (by omega))
        exact ⟨p', e', s1, s2, fun R hR => pre2 (Ev.neg c2 (s3 R hR))⟩
    · refine ⟨p, e, s, .inr (by omega), fun R hR => pre (Ev.step (fun q => by rw [lyndon_Parts.j2]) (Ev.neg (by rw [decide_eq_true_iff]; exact c) ?_))⟩
      rw [w64 (by omega) (by omega), show (e : Int) - ((e - p : Nat) : Int) = (p : Int) by omega]
      exact hR
/-- Low words, none less than the next one, that make what is left. -/
def Left (w : List Int) (a : Nat) (Q : List (List Int)) : Prop := (∀ q ∈ Q, Lyn q) ∧ Falls Q ∧ Q.flatten = w.drop a
theorem parts_l2 {p e : Nat} (hst : Stop w p e) (hp : 0 < p) (hel : e ≤ w.length) (a0 : Nat) (h0 : ∀ (a : Nat) (acc : List (List Int)) (Q : List (List Int)), a0 < a → a ≤ w.length → acc.length + Q.length ≤ 60 → Left w a Q → Ev (fun q => lyndon_Parts.l0 q w acc (a : Int)) (acc ++ Q, 0)) :
    ∀ (m a : Nat) (acc Q : List (List Int)), e - a ≤ m → a ≤ w.length → p ≤ e → (a = a0 → a + p ≤ e) → a0 ≤ a → (a + p ≤ e → Scan w a p e) → acc.length + Q.length ≤ 60 → Left w a Q → Ev (fun q => lyndon_Parts.l2 q w acc (a : Int) ((e - p : Nat) : Int) (p : Int)) (acc ++ Q, 0) := by
  intro m
  induction m with
  | zero =>
    intro a acc Q hm ha hpe h1 h2 h3 h4 h5
    refine Ev.step (fun q => by rw [lyndon_Parts.l2]) (Ev.neg (by omega) ?_)
    exact h0 a acc Q (by omega) ha h4 h5
  | succ m ih =>
    intro a acc Q hm ha hpe h1 h2 h3 h4 h5
    by_cases c : a + p ≤ e
    · have s := h3 c
      obtain ⟨g1, g2, g3⟩ := h5
      have hzl : (w.drop a).length = w.length - a := List.length_drop ..
      cases Q with
      | nil =>
        have := congrArg List.length g3
        rw [List.flatten_nil, List.length_nil, hzl] at this
        omega
      | cons u Q =>
        have hmax := duval_max (z := w.drop a) (p := p) (n := e - a) hp s.per (by omega) (by omega) (by
          rcases hst with h | h
          · exact .inl (by omega)
          · refine .inr ?_
            rw [getD_drop, getD_drop, show a + (e - a) = e by omega, show a + (e - a - p) = e - p by omega]
            exact h)
        have hlen : u.length = p := first_part g1 g2 (m := p) (by rw [g3]; exact s.lyn) (by rw [g3]; exact hmax) (by rw [g3, hzl]; omega)
        have hu : (w.drop a).take p = u := by rw [← g3, List.flatten_cons, List.take_left' hlen]
        have hrest : Q.flatten = w.drop (a + p) := by
          rw [← List.drop_drop, ← g3, List.flatten_cons, List.drop_left' hlen]
        have hclone : bytes_Clone.f ((w.take (((a : Int) + (p : Int)) : Int).toNat).drop ((a : Int)).toNat) = some u := by
          rw [show ((a : Int) + (p : Int)).toNat = a + p by omega, Int.toNat_natCast, List.drop_take, show a + p - a = p by omega, hu]
          unfold bytes_Clone.f
          rw [if_pos (by omega)]
        refine Ev.step (fun q => by rw [lyndon_Parts.l2]) (Ev.pos (by omega) ?_)
        rw [w64 (n := (a : Int) + (p : Int)) (by omega) (by omega)]
        refine Ev.pos (by omega) (Ev.pos (by omega) (Ev.pos (by omega) (Ev.bindc hclone (Ev.pos ?_ ?_))))
        · simp only [List.length_cons] at h4; omega
        · have := ih (a + p) (acc ++ [u]) Q (by omega) (by omega) hpe (by omega) (by omega) (fun c2 => ?_) (by rw [List.length_append, List.length_singleton]; simp only [List.length_cons] at h4; omega) ⟨fun q hq => g1 q (List.mem_cons_of_mem _ hq), g2.2, hrest⟩
          · rw [List.append_assoc] at this
            exact this
          · refine ⟨hp, c2, hel, ?_, ?_⟩
            · rw [← List.drop_drop, per_take hp s.per (by omega) (by omega)]
              exact s.lyn
            · rw [← List.drop_drop, show e - (a + p) = e - a - p by omega]
              exact per_drop s.per
    · refine Ev.step (fun q => by rw [lyndon_Parts.l2]) (Ev.neg (by omega) ?_)
      exact h0 a acc Q (by rcases Nat.eq_or_lt_of_le h2 with x | x; exact absurd (h1 x.symm) c; exact x) ha h4 h5
theorem parts_l0 : ∀ (d a : Nat) (acc Q : List (List Int)), w.length - a ≤ d → a ≤ w.length → acc.length + Q.length ≤ 60 → Left w a Q → Ev (fun q => lyndon_Parts.l0 q w acc (a : Int)) (acc ++ Q, 0) := by
  intro d
  induction d with
  | zero =>
    intro a acc Q hd ha h4 h5
    obtain ⟨g1, g2, g3⟩ := h5
    rw [List.drop_eq_nil_of_le (by omega)] at g3
    have : Q = [] := by
      cases Q with
      | nil => rfl
      | cons u Q =>
        have h1 := (g1 u List.mem_cons_self).1
        rw [List.flatten_cons, List.append_eq_nil_iff] at g3
        rw [g3.1] at h1
        exact absurd h1 (Nat.lt_irrefl _)
    rw [this, List.append_nil]
    exact Ev.step (fun q => by rw [lyndon_Parts.l0]) (Ev.neg (by omega) (Ev.now _))
  | succ d ih =>
    intro a acc Q hd ha h4 h5
    rcases Nat.lt_or_ge a w.length with c | c
    · obtain ⟨p, e, s1, s2, s3⟩ := parts_l1 hw acc a (w.length - (a + 1)) (a + 1) 1 (by omega) (scan_one c)
      have := s1.pe
      refine Ev.step (fun q => by rw [lyndon_Parts.l0]) (Ev.pos (by omega) ?_)
      rw [w64 (n := (a : Int) + 1) (by omega) (by omega)]
      refine s3 _ ?_
      exact parts_l2 hw s2 s1.p0 s1.el a (fun a' acc' Q' x1 x2 x3 x4 => ih a' acc' Q' (by omega) x2 x3 x4) (e - a) a acc Q (Nat.le_refl _) ha (by omega) (fun _ => s1.pe) (Nat.le_refl _) (fun _ => s1) h4 h5
    · exact ih a acc Q (by omega) ha h4 h5
end
theorem parts_spec {Q : List (List Int)} (h1 : ∀ q ∈ Q, Lyn q) (h2 : Falls Q) : ∃ r, Ev (fun q => lyndon_Parts.f q Q.flatten) r ∧ (60 < Q.flatten.length → r.2 = 1) ∧ (Q.flatten.length ≤ 60 → r = (Q, 0)) := by
  by_cases c : 60 < Q.flatten.length
  · exact ⟨([], 1), Ev.congr (fun q => by rw [lyndon_Parts.f]) (Ev.pos (by omega) (Ev.now _)), fun _ => rfl, fun h => by omega⟩
  · have hq : ∀ (Q : List (List Int)), (∀ q ∈ Q, Lyn q) → Q.length ≤ Q.flatten.length := by
      intro Q
      induction Q with
      | nil => intro _; simp
      | cons u Q ih =>
        intro h
        have := (h u List.mem_cons_self).1
        have := ih (fun q hq => h q (List.mem_cons_of_mem _ hq))
        rw [List.flatten_cons, List.length_append, List.length_cons]
        omega
    have := hq Q h1
    refine ⟨(Q, 0), Ev.congr (fun q => by rw [lyndon_Parts.f]) (Ev.neg (by omega) ?_), fun h => by omega, fun _ => rfl⟩
    have h := parts_l0 (w := Q.flatten) (by omega) Q.flatten.length 0 [] Q (by omega) (by omega) (by simp only [List.length_nil]; omega) ⟨h1, h2, by rw [List.drop_zero]⟩
    exact h
end Go.Proofs.Ytkjhddjenkocjaa.PureL
