/- Words on turners in plain Lean: what turner.Run answers. Conditions: the turner is good, the word fits it. -/
import Derived.Test.YtiiankjmeodjdaaPTTurner
import Derived.Test.YtiiankjmeodjdaaGT4
namespace Go.Proofs.Ytiiankjmeodjdaa.PTM
set_option linter.unusedVariables false
set_option linter.unusedSimpArgs false
open Go.RowKit Go.Proofs.Ytiiankjmeodjdaa.GT Go.Proofs.YtiiankjmeodjdaaW.PrintWords Go.Proofs.YtiiankjmeodjdaaW.PrintLast Go.Proofs.YtiiankjmeodjdaaW.PrintMore

def stepT (nx : List (List Int)) (a s : Int) : Int := (nx.getD a.toNat []).getD s.toNat 0
def outS (ou : List (List (List Int))) (a s : Int) : List Int := (ou.getD a.toNat []).getD s.toNat []
/-- Where a word leads, and what is written. -/
def leadsT (nx : List (List Int)) (a : Int) (w : List Int) : Int := w.foldl (stepT nx) a
def outT (nx : List (List Int)) (ou : List (List (List Int))) : Int → List Int → List Int
  | _, [] => []
  | a, s :: w => outS ou a s ++ outT nx ou (stepT nx a s) w
theorem stepT_in {n k l st : Int} {nx : List (List Int)} {ou : List (List (List Int))} (g : GoodT n k l nx ou st) {a s : Int} (ha : 0 ≤ a ∧ a < n) (hs : 0 ≤ s ∧ s < k) : (0 ≤ stepT nx a s ∧ stepT nx a s < n) ∧ (outS ou a s).length ≤ 4 := by
  have hln := g.ln
  have hlo := g.lo
  have hr := g.row a.toNat (by omega)
  have m1 : nx.getD a.toNat [] ∈ nx := getD_mem (by omega)
  have m2 : ou.getD a.toNat [] ∈ ou := getD_mem (by omega)
  exact ⟨g.en _ m1 _ (getD_mem (by omega)), g.small _ m2 _ (getD_mem (by omega))⟩
theorem outT_app {nx : List (List Int)} {ou : List (List (List Int))} : ∀ {u v : List Int} {a : Int}, outT nx ou a (u ++ v) = outT nx ou a u ++ outT nx ou (leadsT nx a u) v
  | [], v, a => by rfl
  | s :: u, v, a => by
    show outS ou a s ++ outT nx ou (stepT nx a s) (u ++ v) = (outS ou a s ++ outT nx ou (stepT nx a s) u) ++ outT nx ou (leadsT nx (stepT nx a s) u) v
    rw [outT_app, List.append_assoc]
theorem outT_len {n k l st : Int} {nx : List (List Int)} {ou : List (List (List Int))} (g : GoodT n k l nx ou st) : ∀ {w : List Int} {a : Int}, (∀ s ∈ w, 0 ≤ s ∧ s < k) → 0 ≤ a ∧ a < n → (outT nx ou a w).length ≤ 4 * w.length
  | [], a, _, _ => by simp [outT]
  | s :: w, a, hw, ha => by
    have h1 := stepT_in g ha (hw s List.mem_cons_self)
    have h2 := outT_len g (w := w) (fun x hx => hw x (List.mem_cons_of_mem _ hx)) h1.1
    rw [outT, List.length_append, List.length_cons]
    have := h1.2
    omega
theorem twrite_l0 {n k l st : Int} {nx : List (List Int)} {ou : List (List (List Int))} (g : GoodT n k l nx ou st) (w : List Int) (hw : GoodW k w) : ∀ (d i : Nat) (a : Int) (acc : List Int), i + d = w.length → 0 ≤ a ∧ a < n → acc.length ≤ 4 * i → Ev (fun q => turner_write.l0 q a acc w (w.length : Int) (i : Int) n k l nx ou st) (acc ++ outT nx ou a (w.drop i), leadsT nx a (w.drop i)) := by
  have hwl := hw.1
  have hk3 := g.k3
  have hln := g.ln
  have hlo := g.lo
  have hn7 := g.n7
  intro d
  induction d with
  | zero =>
    intro i a acc hi ha hl
    rw [List.drop_eq_nil_of_le (by omega)]
    refine Ev.step (fun q => by rw [turner_write.l0]) (Ev.neg (by omega) (Ev.val ?_))
    rw [outT, List.append_nil]
    rfl
  | succ d ih =>
    intro i a acc hi ha hl
    have hlt : i < w.length := by omega
    have hs := hw.2 _ (getD_mem (d := (0 : Int)) hlt)
    obtain ⟨A, rfl⟩ := Int.eq_ofNat_of_zero_le ha.1
    have hr := g.row A (by omega)
    obtain ⟨h1, h2⟩ := stepT_in g ha hs
    rw [drop_cons hlt 0]
    refine Ev.step (fun q => by rw [turner_write.l0]) (Ev.pos (by omega) (Ev.pos (by omega) (Ev.pos (by omega) (Ev.pos (by omega) (Ev.pos (by omega) ?_)))))
    rw [rd_nat, w64 (n := (i : Int) + 1) (by omega) (by omega), rdB_nat, rdA_nat]
    generalize w.getD i 0 = s at *
    obtain ⟨S, rfl⟩ := Int.eq_ofNat_of_zero_le hs.1
    rw [rdA_nat, rd_nat]
    refine Ev.pos (by omega) (Ev.pos (by omega) ?_)
    have e1 : outS ou (A : Int) (S : Int) = (ou.getD A []).getD S [] := by unfold outS; rw [Int.toNat_natCast, Int.toNat_natCast]
    have e2 : stepT nx (A : Int) (S : Int) = (nx.getD A []).getD S 0 := by unfold stepT; rw [Int.toNat_natCast, Int.toNat_natCast]
    rw [e1] at h2
    refine Ev.pos (by omega) (Ev.pos (by omega) (Ev.pos (by omega) ?_))
    have h3 := ih (i + 1) (stepT nx (A : Int) (S : Int)) (acc ++ outS ou (A : Int) (S : Int)) (by omega) h1 (by rw [List.length_append, e1]; omega)
    rw [List.append_assoc, e2, e1] at h3
    rw [outT, e1, e2]
    exact h3
theorem twrite_good {n k l st : Int} {nx : List (List Int)} {ou : List (List (List Int))} (g : GoodT n k l nx ou st) (w : List Int) (hw : GoodW k w) {a : Int} (ha : 0 ≤ a ∧ a < n) : Ev (fun q => turner_write.f q n k l nx ou st a w) (outT nx ou a w, leadsT nx a w) := by
  refine Ev.congr (fun q => by rw [turner_write.f]) ?_
  have := twrite_l0 g w hw w.length 0 a [] (by omega) ha (by simp)
  rw [List.drop_zero, List.nil_append] at this
  exact this
theorem trun_good {n k l st : Int} {nx : List (List Int)} {ou : List (List (List Int))} (g : GoodT n k l nx ou st) (w : List Int) (hw : GoodW k w) : Ev (fun q => turner_Run.f q n k l nx ou st w) (outT nx ou st w, 0) := by
  obtain ⟨e, he, hi⟩ := tcheck_spec (n := n) (k := k) (l := l) (nx := nx) (ou := ou) (s := st)
  obtain ⟨e2, he2, hi2⟩ := words_spec k w
  refine Ev.congr (fun q => by rw [turner_Run.f]) ?_
  refine Ev.bind he ?_
  refine Ev.pos (hi.2 g) ?_
  refine Ev.bindc he2 ?_
  refine Ev.pos (hi2.2 hw) ?_
  refine Ev.bind (twrite_good g w hw ⟨g.s0, g.s1⟩) ?_
  exact Ev.now _
theorem trun_bad {n k l st : Int} {nx : List (List Int)} {ou : List (List (List Int))} (w : List Int) (hn : ¬ (GoodT n k l nx ou st ∧ GoodW k w)) : ∃ e, e ≠ 0 ∧ Ev (fun q => turner_Run.f q n k l nx ou st w) ([], e) := by
  obtain ⟨e, he, hi⟩ := tcheck_spec (n := n) (k := k) (l := l) (nx := nx) (ou := ou) (s := st)
  obtain ⟨e2, he2, hi2⟩ := words_spec k w
  by_cases c : e = 0
  · have c2 : ¬ e2 = 0 := fun h => hn ⟨hi.1 c, hi2.1 h⟩
    exact ⟨e2, c2, Ev.congr (fun q => by rw [turner_Run.f]) (Ev.bind he (Ev.pos c (Ev.bindc he2 (Ev.neg c2 (Ev.now _)))))⟩
  · exact ⟨e, c, Ev.congr (fun q => by rw [turner_Run.f]) (Ev.bind he (Ev.neg c (Ev.now _)))⟩
end Go.Proofs.Ytiiankjmeodjdaa.PTM
