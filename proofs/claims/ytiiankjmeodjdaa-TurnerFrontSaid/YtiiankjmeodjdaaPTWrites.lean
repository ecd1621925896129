/- Words on turners in plain Lean: what the reference writes. Conditions: the turner is good, the word fits it. -/
import Derived.Test.YtiiankjmeodjdaaPTTrun
import Derived.Test.YtiiankjmeodjdaaGT6
namespace Go.Proofs.Ytiiankjmeodjdaa.PTM
set_option linter.unusedVariables false
set_option linter.unusedSimpArgs false
open Go.RowKit Go.Proofs.Ytiiankjmeodjdaa.GT Go.Proofs.YtiiankjmeodjdaaW.PrintWords Go.Proofs.YtiiankjmeodjdaaW.PrintLast Go.Proofs.YtiiankjmeodjdaaW.PrintMore

theorem rwrites_l0 {n k l st : Int} {nx : List (List Int)} {ou : List (List (List Int))} (g : GoodT n k l nx ou st) (w : List Int) (hw : GoodW k w) : ∀ (d i : Nat) (a : Int) (acc : List Int), i + d = w.length → 0 ≤ a ∧ a < n → acc.length ≤ 4 * i → Ev (fun q => coppicerref_Writes.l0 q a acc w (w.length : Int) (i : Int) n k l nx ou st) (acc ++ outT nx ou a (w.drop i), leadsT nx a (w.drop i)) := by
  have hwl := hw.1
  have hk3 := g.k3
  have hln := g.ln
  have hlo := g.lo
  have hn7 := g.n7
  intro d
  induction d with
  | zero =>
    intro i a acc hi ha hl
    rw [List.drop_eq_nil_of_le (by omega)]
    refine Ev.step (fun q => by rw [coppicerref_Writes.l0]) (Ev.neg (by omega) (Ev.val ?_))
    rw [outT, List.append_nil]
    rfl
  | succ d ih =>
    intro i a acc hi ha hl
    have hlt : i < w.length := by omega
    have hs := hw.2 _ (getD_mem (d := (0 : Int)) hlt)
    obtain ⟨A, rfl⟩ := Int.eq_ofNat_of_zero_le ha.1
    have hr := g.row A (by omega)
    obtain ⟨h1, h2⟩ := stepT_in g ha hs
    rw [drop_cons hlt 0]
    refine Ev.step (fun q => by rw [coppicerref_Writes.l0]) (Ev.pos (by omega) (Ev.pos (by omega) (Ev.pos (by omega) (Ev.pos (by omega) (Ev.pos (by omega) ?_)))))
    rw [rd_nat, w64 (n := (i : Int) + 1) (by omega) (by omega), rdB_nat, rdA_nat]
    generalize w.getD i 0 = s at *
    obtain ⟨S, rfl⟩ := Int.eq_ofNat_of_zero_le hs.1
    rw [rdA_nat, rd_nat]
    refine Ev.pos (by omega) (Ev.pos (by omega) ?_)
    have e1 : outS ou (A : Int) (S : Int) = (ou.getD A []).getD S [] := by unfold outS; rw [Int.toNat_natCast, Int.toNat_natCast]
    have e2 : stepT nx (A : Int) (S : Int) = (nx.getD A []).getD S 0 := by unfold stepT; rw [Int.toNat_natCast, Int.toNat_natCast]
    rw [e1] at h2
    refine Ev.pos (by omega) (Ev.pos (by omega) (Ev.pos (by omega) ?_))
    have h3 := ih (i + 1) (stepT nx (A : Int) (S : Int)) (acc ++ outS ou (A : Int) (S : Int)) (by omega) h1 (by rw [List.length_append, e1]; omega)
    rw [List.append_assoc, e2, e1] at h3
    rw [outT, e1, e2]
    exact h3
theorem rwrites_good {n k l st : Int} {nx : List (List Int)} {ou : List (List (List Int))} (g : GoodT n k l nx ou st) (w : List Int) (hw : GoodW k w) {a : Int} (ha : 0 ≤ a ∧ a < n) : Ev (fun q => coppicerref_Writes.f q n k l nx ou st a w) (outT nx ou a w, leadsT nx a w) := by
  refine Ev.congr (fun q => by rw [coppicerref_Writes.f]) ?_
  have := rwrites_l0 g w hw w.length 0 a [] (by omega) ha (by simp)
  rw [List.drop_zero, List.nil_append] at this
  exact this
end Go.Proofs.Ytiiankjmeodjdaa.PTM
