/- Words on nets in plain Lean: what the guards of the statements on nets answer. Conditions: none beyond the kinds of the arguments. -/
import Derived.Test.YtiiankjmeodjdaaPHNet
import Derived.Test.YtiiankjmeodjdaaPHWcheck
import Derived.Test.YtiiankjmeodjdaaGH7
namespace Go.Proofs.Ytiiankjmeodjdaa.PHM
set_option linter.unusedVariables false
set_option linter.unusedSimpArgs false
open Go.RowKit Go.Proofs.Ytiiankjmeodjdaa.GH Go.Proofs.YtiiankjmeodjdaaW.PrintWords Go.Proofs.YtiiankjmeodjdaaW.PrintLast Go.Proofs.YtiiankjmeodjdaaW.PrintMore

theorem refnet_loop (n k : Int) (st f : Int) (arcs0 : List S27) (hn1 : 1 ≤ n) (hn7 : n ≤ 7) (arcs : List S27) (hl : arcs.length ≤ 60) : ∀ (d i : Nat), i + d = arcs.length →
    ∃ e, Ev (fun q => coppicerref_NetCheck.l0 q arcs (arcs.length : Int) (i : Int) n k arcs0 st f) e ∧ (e = 0 ↔ (∀ a ∈ arcs.drop i, GoodA n k a) ∧ st < 2 ^ n.toNat ∧ f < 2 ^ n.toNat) := by
  intro d
  induction d with
  | zero =>
    intro i hi
    rw [List.drop_eq_nil_of_le (by omega)]
    have pre : ∀ {r : Int}, Ev (fun q => if st ≥ 2 ^ n.toNat then (some 4) else (if f ≥ 2 ^ n.toNat then (some 4) else (some 0))) r → Ev (fun q => coppicerref_NetCheck.l0 q arcs (arcs.length : Int) (i : Int) n k arcs0 st f) r := by
      intro r h
      refine Ev.step (fun q => by rw [coppicerref_NetCheck.l0]) ?_
      refine Ev.neg (by omega) ?_
      rw [u64_small (by omega) (by omega), shl_one (by omega) (by omega)]
      exact Ev.pos (by omega) h
    by_cases c1 : st ≥ 2 ^ n.toNat
    · exact ⟨4, pre (Ev.pos c1 (Ev.now _)), fun h => absurd h (by decide), fun h => by omega⟩
    · by_cases c2 : f ≥ 2 ^ n.toNat
      · exact ⟨4, pre (Ev.neg c1 (Ev.pos c2 (Ev.now _))), fun h => absurd h (by decide), fun h => by omega⟩
      · exact ⟨0, pre (Ev.neg c1 (Ev.neg c2 (Ev.now _))), fun _ => ⟨fun a ha => absurd ha (by simp), by omega, by omega⟩, fun _ => rfl⟩
  | succ d ih =>
    intro i hi
    have hlt : i < arcs.length := by omega
    obtain ⟨e, he, hie⟩ := ih (i + 1) (by omega)
    rw [drop_cons hlt z27]
    have pre : ∀ {r : Int}, Ev (fun q => (if ((arcs.getD i z27).f0) < 0 then (some 2) else (if ((arcs.getD i z27).f0) ≥ n then (some 2) else (if ((arcs.getD i z27).f2) < 0 then (some 2) else (if ((arcs.getD i z27).f2) ≥ n then (some 2) else (if ((arcs.getD i z27).f1) < (-1) then (some 2) else (if ((arcs.getD i z27).f1) ≥ k then (some 2) else (coppicerref_NetCheck.l0 q arcs (arcs.length : Int) ((i + 1 : Nat) : Int) n k arcs0 st f)))))))) r → Ev (fun q => coppicerref_NetCheck.l0 q arcs (arcs.length : Int) (i : Int) n k arcs0 st f) r := by
      intro r h
      refine Ev.step (fun q => by rw [coppicerref_NetCheck.l0]) ?_
      refine Ev.pos (by omega) ?_
      refine Ev.pos (by omega) ?_
      refine Ev.pos (by omega) ?_
      rw [rdT_nat, w64 (n := (i : Int) + 1) (by omega) (by omega)]
      exact h
    generalize arcs.getD i z27 = a at pre
    have two : (¬ GoodA n k a) → ((2 : Int) = 0 ↔ (∀ x ∈ a :: arcs.drop (i + 1), GoodA n k x) ∧ st < 2 ^ n.toNat ∧ f < 2 ^ n.toNat) := fun hb => ⟨fun h => absurd h (by decide), fun h => absurd (h.1 a List.mem_cons_self) hb⟩
    by_cases c1 : a.f0 < 0
    · exact ⟨2, pre (Ev.pos c1 (Ev.now _)), two fun h => by have := h.f0; omega⟩
    by_cases c2 : a.f0 ≥ n
    · exact ⟨2, pre (Ev.neg c1 (Ev.pos c2 (Ev.now _))), two fun h => by have := h.f1; omega⟩
    by_cases c3 : a.f2 < 0
    · exact ⟨2, pre (Ev.neg c1 (Ev.neg c2 (Ev.pos c3 (Ev.now _)))), two fun h => by have := h.t0; omega⟩
    by_cases c4 : a.f2 ≥ n
    · exact ⟨2, pre (Ev.neg c1 (Ev.neg c2 (Ev.neg c3 (Ev.pos c4 (Ev.now _))))), two fun h => by have := h.t1; omega⟩
    by_cases c5 : a.f1 < -1
    · exact ⟨2, pre (Ev.neg c1 (Ev.neg c2 (Ev.neg c3 (Ev.neg c4 (Ev.pos c5 (Ev.now _)))))), two fun h => by have := h.s0; omega⟩
    by_cases c6 : a.f1 ≥ k
    · exact ⟨2, pre (Ev.neg c1 (Ev.neg c2 (Ev.neg c3 (Ev.neg c4 (Ev.neg c5 (Ev.pos c6 (Ev.now _))))))), two fun h => by have := h.s1; omega⟩
    refine ⟨e, pre (Ev.neg c1 (Ev.neg c2 (Ev.neg c3 (Ev.neg c4 (Ev.neg c5 (Ev.neg c6 he)))))), ?_⟩
    rw [hie]
    constructor
    · intro h
      refine ⟨fun x hx => ?_, h.2⟩
      rcases List.mem_cons.1 hx with rfl | hx
      · exact ⟨by omega, by omega, by omega, by omega, by omega, by omega⟩
      · exact h.1 x hx
    · exact fun h => ⟨fun x hx => h.1 x (List.mem_cons_of_mem _ hx), h.2⟩
theorem refnet_spec {n k : Int} {arcs : List S27} {st f : Int} : ∃ e, Ev (fun q => coppicerref_NetCheck.f q n k arcs st f) e ∧ (e = 0 ↔ GoodN n k arcs st f) := by
  have one : Ev (fun q => coppicerref_NetCheck.j0 q true n k arcs st f) 1 := Ev.step (fun q => by rw [coppicerref_NetCheck.j0]) (Ev.pos rfl (Ev.now _))
  by_cases a1 : n < 1
  · exact ⟨1, Ev.congr (fun q => by rw [coppicerref_NetCheck.f]) (Ev.pos a1 one), fun h => absurd h (by decide), fun h => by have := h.n1; omega⟩
  by_cases a2 : n > 7
  · exact ⟨1, Ev.congr (fun q => by rw [coppicerref_NetCheck.f]) (Ev.neg a1 (Ev.pos a2 one)), fun h => absurd h (by decide), fun h => by have := h.n7; omega⟩
  by_cases a3 : k < 1
  · exact ⟨1, Ev.congr (fun q => by rw [coppicerref_NetCheck.f]) (Ev.neg a1 (Ev.neg a2 (Ev.pos a3 one))), fun h => absurd h (by decide), fun h => by have := h.k1; omega⟩
  by_cases a4 : k > 3
  · exact ⟨1, Ev.congr (fun q => by rw [coppicerref_NetCheck.f]) (Ev.neg a1 (Ev.neg a2 (Ev.neg a3 (Ev.pos a4 one)))), fun h => absurd h (by decide), fun h => by have := h.k3; omega⟩
  by_cases a5 : (arcs.length : Int) > 60
  · refine ⟨1, Ev.congr (fun q => by rw [coppicerref_NetCheck.f]) (Ev.neg a1 (Ev.neg a2 (Ev.neg a3 (Ev.neg a4 ?_)))), fun h => absurd h (by decide), fun h => by have := h.len; omega⟩
    rw [decide_eq_true a5]
    exact one
  · obtain ⟨e, he, hie⟩ := refnet_loop n k st f arcs (by omega) (by omega) arcs (by omega) arcs.length 0 (by omega)
    refine ⟨e, Ev.congr (fun q => by rw [coppicerref_NetCheck.f]) (Ev.neg a1 (Ev.neg a2 (Ev.neg a3 (Ev.neg a4 ?_)))), ?_⟩
    · rw [decide_eq_false a5]
      refine Ev.step (fun q => by rw [coppicerref_NetCheck.j0]) ?_
      refine Ev.neg (by decide) ?_
      exact he
    · rw [hie, List.drop_zero]
      exact ⟨fun h => ⟨by omega, by omega, by omega, by omega, by omega, h.1, h.2.1, h.2.2⟩, fun h => ⟨h.arc, h.st, h.fin⟩⟩
theorem netted_spec {n k : Int} {arcs : List S27} {st f : Int} (w : List Int) : ∃ b, Ev (fun q => coppicerkeep_netted.f q n k arcs st f w) b ∧ (b = true ↔ GoodN n k arcs st f ∧ GoodW k w) := by
  obtain ⟨e, he, hi⟩ := refnet_spec (n := n) (k := k) (arcs := arcs) (st := st) (f := f)
  obtain ⟨e2, he2, hi2⟩ := wordcheck_spec k w
  by_cases c : e = 0
  · refine ⟨e2 == 0, Ev.congr (fun q => by rw [coppicerkeep_netted.f]) (Ev.bind he (Ev.pos c (Ev.bind (f := fun _ t => some (t == 0)) he2 (Ev.now _)))), ?_⟩
    rw [beq_iff_eq, hi2]
    exact ⟨fun h => ⟨hi.1 c, h⟩, fun h => h.2⟩
  · refine ⟨_, Ev.congr (fun q => by rw [coppicerkeep_netted.f]) (Ev.bind he (Ev.neg c (Ev.now _))), ?_⟩
    exact ⟨fun h => absurd h (by decide), fun h => absurd (hi.2 h.1) c⟩
end Go.Proofs.Ytiiankjmeodjdaa.PHM
