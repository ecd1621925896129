/- Words on plain.Steps in plain Lean: the steps that are laid are one fewer than twice the symbols. Conditions: the grammar is good and plain, the word is good. -/
import Derived.Test.YthgiiikjcfhgjaaPUCount
import Derived.Test.YthgiiikjcfhgjaaGU10
import Derived.Test.YthgiiikjcfhgjaaGU9
namespace Go.Proofs.Ythgiiikjcfhgjaa.PUM
set_option linter.unusedVariables false
set_option linter.unusedSimpArgs false
open Go.RowKit Go.Proofs.Ythgiiikjcfhgjaa.GU Go.Proofs.YthgiiikjcfhgjaaW.PrintWords Go.Proofs.YthgiiikjcfhgjaaW.PrintLast Go.Proofs.YthgiiikjcfhgjaaW.PrintMore

/-- Each rule is a symbol, or two names. -/
def PlainR (k : Int) (r : S126) : Prop := (∃ x, r.f1 = [x] ∧ x < k) ∨ ∃ x y, r.f1 = [x, y] ∧ k ≤ x ∧ k ≤ y
theorem cnt_cons (k x : Int) (l : List Int) : plain_any.cnt k (x :: l) = (if x ≥ k then 1 else 0) + plain_any.cnt k l := by
  unfold plain_any.cnt
  rw [List.filter_cons]
  by_cases c : x ≥ k
  · simp [c]; omega
  · simp [c]
theorem cnt_nil (k : Int) : plain_any.cnt k [] = 0 := rfl
theorem two_of {l : List Int} (h : l.length = 2) : ∃ x y, l = [x, y] := by
  match l, h with
  | [x, y], _ => exact ⟨x, y, rfl⟩
theorem plain_p (k : Int) (r : S126) : plain_any.p k r = false ↔ PlainR k r := by
  unfold plain_any.p PlainR
  rw [Bool.not_eq_false', Bool.or_eq_true, Bool.and_eq_true, Bool.and_eq_true, beq_iff_eq, beq_iff_eq, beq_iff_eq, beq_iff_eq]
  constructor
  · rintro (⟨h1, h2⟩ | ⟨h1, h2⟩)
    · left
      obtain ⟨x, hx⟩ := List.length_eq_one_iff.1 h1
      rw [hx, cnt_cons, cnt_nil] at h2
      refine ⟨x, hx, ?_⟩
      by_cases c : x ≥ k
      · rw [if_pos c] at h2; omega
      · omega
    · right
      obtain ⟨x, y, hx⟩ := two_of h1
      rw [hx, cnt_cons, cnt_cons, cnt_nil] at h2
      refine ⟨x, y, hx, ?_, ?_⟩
      · by_cases c : x ≥ k
        · exact c
        · rw [if_neg c] at h2; split at h2 <;> omega
      · by_cases c : y ≥ k
        · exact c
        · rw [if_neg c] at h2; split at h2 <;> omega
  · rintro (⟨x, hx, c⟩ | ⟨x, y, hx, c1, c2⟩)
    · left
      rw [hx, cnt_cons, cnt_nil, if_neg (by omega)]
      exact ⟨rfl, rfl⟩
    · right
      rw [hx, cnt_cons, cnt_cons, cnt_nil, if_pos c1, if_pos c2]
      exact ⟨rfl, rfl⟩
theorem plain_spec (k n s : Int) (rs : List S126) : ∃ b : Bool, plain_plain.f k n s rs = some b ∧ (b = true ↔ ∀ r ∈ rs, PlainR k r) := by
  refine ⟨_, by rw [plain_plain.f, plain_any.f, Option.bind_some], ?_⟩
  rw [Bool.not_eq_true', List.any_eq_false]
  constructor
  · intro h r hr
    rw [← plain_p]
    exact Bool.eq_false_iff.2 (h r hr)
  · intro h r hr
    exact Bool.eq_false_iff.1 ((plain_p k r).2 (h r hr))
theorem plain_proper {k : Int} {rs : List S126} (h : ∀ r ∈ rs, PlainR k r) : ProperG k rs := by
  intro r hr
  rcases h r hr with ⟨x, hx, c⟩ | ⟨x, y, hx, c1, c2⟩
  · rw [hx]
    exact ⟨by simp, fun y hy => by injection hy with hy; omega⟩
  · rw [hx]
    exact ⟨by simp, fun y hy => by simp at hy⟩
theorem lay_eq (q : Nat) (K : Int) (rules : List S126) (ws : List Int) (name fr en : Int) (acc : List Int) : plain_Steps.lay (q + 1) K rules ws name fr en acc = if rules.length ≤ 10 then plain_Steps.layL q K rules ws name fr en 0 acc else none := by rw [plain_Steps.lay]
theorem layL_eq (q : Nat) (K : Int) (rules : List S126) (ws : List Int) (name fr en i : Int) (acc : List Int) : plain_Steps.layL (q + 1) K rules ws name fr en i acc = if i < (rules.length : Int) then
      (if (rd_T126 rules i).f0 = name then
        (table_Count.rest q K rules ws i 0 fr en).bind fun n => if n = 0 then plain_Steps.layL q K rules ws name fr en (i + 1) acc else
          if acc.length < 1000 then
            (if (rd_T126 rules i).f1.length = 2 then
              (plain_Steps.mid q K rules ws (rd (rd_T126 rules i).f1 0) (rd (rd_T126 rules i).f1 1) fr en (fr + 1)).bind fun m =>
                (plain_Steps.lay q K rules ws (wrap64 (rd (rd_T126 rules i).f1 0 - K)) fr m (acc ++ [i])).bind fun a => plain_Steps.lay q K rules ws (wrap64 (rd (rd_T126 rules i).f1 1 - K)) m en a
            else some (acc ++ [i]))
          else none
      else plain_Steps.layL q K rules ws name fr en (i + 1) acc)
    else some acc := by rw [plain_Steps.layL]
theorem mid_eq (q : Nat) (K : Int) (rules : List S126) (ws : List Int) (x y fr en m : Int) : plain_Steps.mid (q + 1) K rules ws x y fr en m = if 0 ≤ m ∧ m ≤ 100 then
      (table_Count.sign q K rules ws x fr m).bind fun a => if a = 0 then plain_Steps.mid q K rules ws x y fr en (m + 1) else
        (table_Count.sign q K rules ws y m en).bind fun b => if b = 0 then plain_Steps.mid q K rules ws x y fr en (m + 1) else some m
    else none := by rw [plain_Steps.mid]
section
variable {k n s : Int} {w : List Int} {rs : List S126} {T : List (List Int)} (g : GoodG k n s rs) (hw : w.length ≤ 12) (F : Filled k n w rs T) (P : ProperG k rs)
include g hw F P
theorem mid_good {x y : Int} (x0 : 0 ≤ x) (x1 : x < k + n) (y0 : 0 ≤ y) (y1 : y < k + n) {i j m : Nat} (hj : j ≤ w.length) (hX : StepR k w (famT T) x i m) (hY : StepR k w (famT T) y m j) : ∀ (d mm : Nat), mm + d = m → i < mm → ∃ r : Nat, Ev (fun q => plain_Steps.mid q k rs w x y (i : Int) (j : Int) (mm : Int)) (r : Int) ∧ StepR k w (famT T) x i r ∧ StepR k w (famT T) y r j := by
  have hmj := fam_step F P hY
  intro d
  induction d with
  | zero =>
    intro mm hd hi
    obtain rfl : mm = m := by omega
    obtain ⟨v, hv, v0, v1, vi⟩ := (count_all g hw F P (mm - i) i mm (by omega) (by omega)).2 x x0 x1
    obtain ⟨u, hu, u0, u1, ui⟩ := (count_all g hw F P (j - mm) mm j (by omega) hj).2 y y0 y1
    have hv0 := vi.2 hX
    have hu0 := ui.2 hY
    refine ⟨mm, Ev.step (fun q => mid_eq q _ _ _ _ _ _ _ _) ?_, hX, hY⟩
    refine Ev.pos (by omega) ?_
    refine Ev.bind hv ?_
    refine Ev.neg (by omega) ?_
    refine Ev.bind hu ?_
    refine Ev.neg (by omega) ?_
    exact Ev.now _
  | succ d ih =>
    intro mm hd hi
    obtain ⟨r, hr, h1, h2⟩ := ih (mm + 1) (by omega) (by omega)
    rw [show ((mm + 1 : Nat) : Int) = (mm : Int) + 1 by omega] at hr
    obtain ⟨v, hv, v0, v1, vi⟩ := (count_all g hw F P (mm - i) i mm (by omega) (by omega)).2 x x0 x1
    obtain ⟨u, hu, u0, u1, ui⟩ := (count_all g hw F P (j - mm) mm j (by omega) hj).2 y y0 y1
    by_cases cv : v = 0
    · refine ⟨r, Ev.step (fun q => mid_eq q _ _ _ _ _ _ _ _) ?_, h1, h2⟩
      refine Ev.pos (by omega) ?_
      refine Ev.bind hv ?_
      refine Ev.pos cv ?_
      exact hr
    · by_cases cu : u = 0
      · refine ⟨r, Ev.step (fun q => mid_eq q _ _ _ _ _ _ _ _) ?_, h1, h2⟩
        refine Ev.pos (by omega) ?_
        refine Ev.bind hv ?_
        refine Ev.neg cv ?_
        refine Ev.bind hu ?_
        refine Ev.pos cu ?_
        exact hr
      · refine ⟨mm, Ev.step (fun q => mid_eq q _ _ _ _ _ _ _ _) ?_, vi.1 (by omega), ui.1 (by omega)⟩
        refine Ev.pos (by omega) ?_
        refine Ev.bind hv ?_
        refine Ev.neg cv ?_
        refine Ev.bind hu ?_
        refine Ev.neg cu ?_
        exact Ev.now _
theorem lay_good (hp : ∀ r ∈ rs, PlainR k r) : ∀ (d i j : Nat) (A : Int) (acc : List Int), j = i + d → j ≤ w.length → 0 ≤ A → A < n → famT T A i j → acc.length + 2 * d ≤ 100 →
    ∃ l : List Int, Ev (fun q => plain_Steps.lay q k rs w A (i : Int) (j : Int) acc) (acc ++ l) ∧ l.length + 1 = 2 * d := by
  have hk1 := g.k1
  have hk3 := g.k3
  have hn5 := g.n5
  have hlen := g.len
  intro d
  induction d using Nat.strongRecOn with
  | ind d ih =>
    intro i j A acc hj hjw A0 A1 hA hacc
    have hij := fam_pos F P A0 hA
    obtain ⟨r, hr, hrA, hc, _⟩ := fam_rule F (fun r hr => (g.rule r hr).l0) A0 hA
    obtain ⟨b0, hb0, hrb⟩ := List.getElem_of_mem hr
    have hrb : rs.getD b0 z126 = r := by rw [List.getD_eq_getElem?_getD, List.getElem?_eq_getElem hb0]; exact hrb
    have loop : ∀ (e a : Nat), a + e = b0 → ∃ l : List Int, Ev (fun q => plain_Steps.layL q k rs w A (i : Int) (j : Int) (a : Int) acc) (acc ++ l) ∧ l.length + 1 = 2 * d := by
      -- what is laid at a rule that makes the stretch
      have here : ∀ a, a < rs.length → (rs.getD a z126).f0 = A → ChainR k w (famT T) (rs.getD a z126).f1 i j → ∃ l : List Int, Ev (fun q => plain_Steps.layL q k rs w A (i : Int) (j : Int) (a : Int) acc) (acc ++ l) ∧ l.length + 1 = 2 * d := by
        intro a ha hA2 hch
        have hm : rs.getD a z126 ∈ rs := getD_mem ha
        obtain ⟨v, hv, v0, v1, vi⟩ := (count_all g hw F P d i j hj hjw).1 a 0 ha (Nat.zero_le _)
        rw [List.drop_zero] at vi
        have hv0 := vi.2 hch
        rcases hp _ hm with ⟨x, hx, cx⟩ | ⟨x, y, hx, cx, cy⟩
        · rw [hx] at hch
          obtain ⟨m, h1, h2⟩ := hch
          have h2 : m = j := h2
          subst h2
          have hd1 : m = i + 1 := by
            rcases h1.2 with ⟨h3, _⟩ | ⟨_, _, _, h3⟩
            · omega
            · exact h3
          refine ⟨[(a : Int)], Ev.step (fun q => layL_eq q _ _ _ _ _ _ _ _) ?_, by simp; omega⟩
          rw [rdR_nat]
          refine Ev.pos (by omega) ?_
          refine Ev.pos hA2 ?_
          refine Ev.bind hv ?_
          refine Ev.neg (by omega) ?_
          refine Ev.pos (by omega) ?_
          refine Ev.neg (by rw [hx]; simp) ?_
          exact Ev.now _
        · rw [hx] at hch
          obtain ⟨m, h1, m2, h2, h3⟩ := hch
          have h3 : m2 = j := h3
          subst h3
          have sg := (g.rule _ hm).sg
          rw [hx] at sg
          have sx := sg x (by simp)
          have sy := sg y (by simp)
          have p1 := fam_step F P h1
          have p2 := fam_step F P h2
          obtain ⟨r2, hr2, u1, u2⟩ := mid_good g hw F P sx.1 sx.2 sy.1 sy.2 hjw h1 h2 (m - (i + 1)) (i + 1) (by omega) (by omega)
          have p3 := fam_step F P u1
          have p4 := fam_step F P u2
          have f1 : famT T (x - k) i r2 := by
            rcases u1.2 with ⟨_, h⟩ | ⟨h, _⟩
            · exact h
            · omega
          have f2 : famT T (y - k) r2 m2 := by
            rcases u2.2 with ⟨_, h⟩ | ⟨h, _⟩
            · exact h
            · omega
          obtain ⟨l1, e1, n1⟩ := ih (r2 - i) (by omega) i r2 (x - k) (acc ++ [(a : Int)]) (by omega) (by omega) (by omega) (by omega) f1 (by rw [List.length_append]; simp; omega)
          obtain ⟨l2, e2, n2⟩ := ih (m2 - r2) (by omega) r2 m2 (y - k) (acc ++ [(a : Int)] ++ l1) (by omega) hjw (by omega) (by omega) f2 (by rw [List.length_append, List.length_append]; simp; omega)
          refine ⟨[(a : Int)] ++ l1 ++ l2, Ev.step (fun q => layL_eq q _ _ _ _ _ _ _ _) ?_, by simp; omega⟩
          rw [rdR_nat, hx]
          refine Ev.pos (by omega) ?_
          refine Ev.pos hA2 ?_
          refine Ev.bind hv ?_
          refine Ev.neg (by omega) ?_
          refine Ev.pos (by omega) ?_
          refine Ev.pos rfl ?_
          rw [show ((i + 1 : Nat) : Int) = (i : Int) + 1 by omega] at hr2
          refine Ev.bind hr2 ?_
          rw [show wrap64 (rd [x, y] 0 - k) = x - k from w64 (n := x - k) (by omega) (by omega), show wrap64 (rd [x, y] 1 - k) = y - k from w64 (n := y - k) (by omega) (by omega)]
          refine Ev.bind e1 ?_
          refine Ev.eq e2 ?_
          simp
      intro e
      induction e with
      | zero =>
        intro a ha
        obtain rfl : a = b0 := by omega
        exact here a hb0 (by rw [hrb]; exact hrA) (by rw [hrb]; exact hc)
      | succ e ihe =>
        intro a ha
        have halt : a < rs.length := by omega
        obtain ⟨l, hl, hn⟩ := ihe (a + 1) (by omega)
        rw [show ((a + 1 : Nat) : Int) = (a : Int) + 1 by omega] at hl
        by_cases cA : (rs.getD a z126).f0 = A
        · by_cases cc : ChainR k w (famT T) (rs.getD a z126).f1 i j
          · exact here a halt cA cc
          · obtain ⟨v, hv, v0, v1, vi⟩ := (count_all g hw F P d i j hj hjw).1 a 0 halt (Nat.zero_le _)
            rw [List.drop_zero] at vi
            have hv0 : v = 0 := by
              by_cases c : 0 < v
              · exact absurd (vi.1 c) cc
              · omega
            refine ⟨l, Ev.step (fun q => layL_eq q _ _ _ _ _ _ _ _) ?_, hn⟩
            rw [rdR_nat]
            refine Ev.pos (by omega) ?_
            refine Ev.pos cA ?_
            refine Ev.bind hv ?_
            refine Ev.pos hv0 ?_
            exact hl
        · refine ⟨l, Ev.step (fun q => layL_eq q _ _ _ _ _ _ _ _) ?_, hn⟩
          rw [rdR_nat]
          refine Ev.pos (by omega) ?_
          refine Ev.neg cA ?_
          exact hl
    obtain ⟨l, hl, hn⟩ := loop b0 0 (by omega)
    refine ⟨l, Ev.step (fun q => lay_eq q _ _ _ _ _ _ _) ?_, hn⟩
    refine Ev.pos hlen ?_
    exact hl
end
end Go.Proofs.Ythgiiikjcfhgjaa.PUM
