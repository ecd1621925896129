/- ClimbBack, the part over lists: what is shown of an expression in post order is read as it was; what is none is told. Conditions: none. -/
import Derived.Test.YthgiiikjcfhgjaaPCClimbs
import Derived.Test.YthgiiikjcfhgjaaGC8
namespace Go.Proofs.Ythgiiikjcfhgjaa.PCM
set_option linter.unusedVariables false
set_option linter.unusedSimpArgs false
open Go.RowKit Go.Proofs.Ythgiiikjcfhgjaa.GC Go.Proofs.YthgiiikjcfhgjaaW.PrintWords Go.Proofs.YthgiiikjcfhgjaaW.PrintLast Go.Proofs.YthgiiikjcfhgjaaW.PrintMore

theorem half_loop (l : List Int) (hl : l.length ≤ 60) : ∀ (j : Nat) (x : Int), j < l.length → ∃ r, Ev (fun q => coppicerref_Half.l0 q l x (j : Int)) r ∧ (r > 0 → r ≤ (j : Int)) := by
  intro j
  induction j with
  | zero =>
    intro x hj
    refine ⟨-1, ?_, fun h => by omega⟩
    refine Ev.step (fun q => by rw [coppicerref_Half.l0]) ?_
    refine Ev.neg (by omega) ?_
    exact Ev.now _
  | succ j ih =>
    intro x hj
    have hc : wrap64 (((j + 1 : Nat) : Int) - 1) = (j : Int) := by rw [w64 (by omega) (by omega)]; omega
    have base : ∀ {e'}, Ev (fun q => (if (rd l ((j + 1 : Nat) : Int)) ≥ 100 then (if (wrap64 (x - 1)) = 0 then (some ((j + 1 : Nat) : Int)) else (coppicerref_Half.l0 q l (wrap64 (x - 1)) (wrap64 (((j + 1 : Nat) : Int) - 1)))) else (if (wrap64 (x + 1)) = 0 then (some ((j + 1 : Nat) : Int)) else (coppicerref_Half.l0 q l (wrap64 (x + 1)) (wrap64 (((j + 1 : Nat) : Int) - 1)))))) e' → Ev (fun q => coppicerref_Half.l0 q l x ((j + 1 : Nat) : Int)) e' := fun h =>
      Ev.step (fun q => by rw [coppicerref_Half.l0]) (Ev.pos (by omega) (Ev.pos (by omega) (Ev.pos (by omega) h)))
    rw [hc] at base
    by_cases h1 : rd l ((j + 1 : Nat) : Int) ≥ 100
    · by_cases h2 : wrap64 (x - 1) = 0
      · exact ⟨_, base (Ev.pos h1 (Ev.pos h2 (Ev.now _))), fun _ => Int.le_refl _⟩
      · obtain ⟨r, hE, hr⟩ := ih (wrap64 (x - 1)) (by omega)
        exact ⟨r, base (Ev.pos h1 (Ev.neg h2 hE)), fun h => by have := hr h; omega⟩
    · by_cases h2 : wrap64 (x + 1) = 0
      · exact ⟨_, base (Ev.neg h1 (Ev.pos h2 (Ev.now _))), fun _ => Int.le_refl _⟩
      · obtain ⟨r, hE, hr⟩ := ih (wrap64 (x + 1)) (by omega)
        exact ⟨r, base (Ev.neg h1 (Ev.neg h2 hE)), fun h => by have := hr h; omega⟩
theorem half_spec (l : List Int) (hl : l.length ≤ 60) : ∃ r, Ev (fun q => coppicerref_Half.f q l) r ∧ (r > 0 → r ≤ (l.length : Int) - 2 ∧ l.getD (l.length - 1) 0 < 100) := by
  by_cases h : (l.length : Int) < 3
  · exact ⟨-1, Ev.congr (fun q => by rw [coppicerref_Half.f]) (Ev.pos h (Ev.step (fun q => by rw [coppicerref_Half.j0]) (Ev.pos rfl (Ev.now _)))), fun h => by omega⟩
  · have e1 : wrap64 ((l.length : Int) - 1) = ((l.length - 1 : Nat) : Int) := by rw [w64 (by omega) (by omega)]; omega
    have e2 : wrap64 ((l.length : Int) - 2) = ((l.length - 2 : Nat) : Int) := by rw [w64 (by omega) (by omega)]; omega
    have base : ∀ {e'}, Ev (fun q => coppicerref_Half.j0 q l (decide (rd l ((l.length - 1 : Nat) : Int) ≥ 100))) e' → Ev (fun q => coppicerref_Half.f q l) e' := fun hh =>
      Ev.congr (fun q => by rw [coppicerref_Half.f, e1]) (Ev.neg h (Ev.pos (by omega) (Ev.pos (by omega) hh)))
    rw [rd_nat] at base
    by_cases h1 : l.getD (l.length - 1) 0 ≥ 100
    · refine ⟨-1, base (Ev.step (fun q => by rw [coppicerref_Half.j0]) (Ev.pos (decide_eq_true h1) (Ev.now _))), fun h => by omega⟩
    · obtain ⟨r, hE, hr⟩ := half_loop l hl (l.length - 2) 1 (by omega)
      refine ⟨r, base (Ev.step (fun q => by rw [coppicerref_Half.j0, e2]) (Ev.neg (c := decide (l.getD (l.length - 1) 0 ≥ 100) = true) (by rw [decide_eq_true_iff]; exact h1) hE)), fun h => ⟨by have := hr h; omega, by omega⟩⟩
theorem post_spec (N : Int) : ∀ (n : Nat) (l : List Int), l.length ≤ n → l.length ≤ 60 → (∀ x ∈ l, signOk N false x) → ∃ b, Ev (fun q => coppicerref_Post.f q l) b ∧ (b = true → ∃ t : Tr, t.good N ∧ l = t.post) := by
  intro n
  induction n with
  | zero =>
    intro l h0 hl hs
    obtain ⟨r, hE, hr⟩ := half_spec l hl
    refine ⟨false, ?_, fun h => by cases h⟩
    refine Ev.step (fun q => by rw [coppicerref_Post.f]) ?_
    refine Ev.neg (by omega) ?_
    refine Ev.bind hE ?_
    refine Ev.neg (fun h => by have := (hr h).1; omega) ?_
    exact Ev.now _
  | succ n ih =>
    intro l h0 hl hs
    by_cases h1 : (l.length : Int) = 1
    · refine ⟨decide (rd l 0 ≥ 100), Ev.step (fun q => by rw [coppicerref_Post.f]) (Ev.pos h1 (Ev.pos (by omega) (Ev.now _))), fun h => ?_⟩
      match l, h1 with
      | [x], _ => exact ⟨.val x, (by simpa [rd] using h : 100 ≤ x), rfl⟩
    · obtain ⟨r, hE, hr⟩ := half_spec l hl
      by_cases h2 : r > 0
      · obtain ⟨hr1, hr2⟩ := hr h2
        have e1 : wrap64 ((l.length : Int) - 1) = (l.length : Int) - 1 := by rw [w64 (by omega) (by omega)]
        have hsplit : l = l.take r.toNat ++ ((l.take ((l.length : Int) - 1).toNat).drop r.toNat ++ [l.getD (l.length - 1) 0]) := by
          have a1 : l = l.take (l.length - 1) ++ [l.getD (l.length - 1) 0] := by
            conv => lhs; rw [← List.take_append_drop (l.length - 1) l]
            rw [dropc (l := l) (i := l.length - 1) (by omega) 0, List.drop_eq_nil_of_le (by omega)]
          have a2 : l.take (l.length - 1) = l.take r.toNat ++ (l.take (l.length - 1)).drop r.toNat := by
            conv => lhs; rw [← List.take_append_drop r.toNat (l.take (l.length - 1))]
            rw [List.take_take, Nat.min_eq_left (by omega)]
          rw [show ((l.length : Int) - 1).toNat = l.length - 1 by omega, ← List.append_assoc, ← a2]
          exact a1
        obtain ⟨b1, hE1, hb1⟩ := ih (l.take r.toNat) (by rw [List.length_take]; omega) (by rw [List.length_take]; omega) (fun x hx => hs x (List.mem_of_mem_take hx))
        obtain ⟨b2, hE2, hb2⟩ := ih ((l.take ((l.length : Int) - 1).toNat).drop r.toNat) (by rw [List.length_drop, List.length_take]; omega) (by rw [List.length_drop, List.length_take]; omega) (fun x hx => hs x (List.mem_of_mem_take (List.mem_of_mem_drop hx)))
        cases b1 with
        | false =>
          refine ⟨false, ?_, fun h => by cases h⟩
          refine Ev.step (fun q => by rw [coppicerref_Post.f]) ?_
          refine Ev.neg h1 ?_
          refine Ev.bind hE ?_
          refine Ev.pos h2 ?_
          refine Ev.pos (by omega) ?_
          refine Ev.pos (by omega) ?_
          refine Ev.bind hE1 ?_
          refine Ev.neg (by simp) ?_
          exact Ev.now _
        | true =>
          refine ⟨b2, ?_, fun h => ?_⟩
          · refine Ev.step (fun q => by rw [coppicerref_Post.f, e1]) ?_
            refine Ev.neg h1 ?_
            refine Ev.bind hE ?_
            refine Ev.pos h2 ?_
            refine Ev.pos (by omega) ?_
            refine Ev.pos (by omega) ?_
            refine Ev.bind hE1 ?_
            refine Ev.pos rfl ?_
            refine Ev.pos (by omega) ?_
            refine Ev.pos (by omega) ?_
            refine Ev.bind hE2 ?_
            exact Ev.now _
          obtain ⟨t1, g1, p1⟩ := hb1 rfl
          obtain ⟨t2, g2, p2⟩ := hb2 h
          have hx := hs (l.getD (l.length - 1) 0) (getD_mem (by omega))
          refine ⟨.op (l.getD (l.length - 1) 0) t1 t2, ⟨?_, g1, g2⟩, ?_⟩
          · rcases hx with c | c | c
            · omega
            · exact c
            · cases c.1
          · rw [Tr.post, ← p1, ← p2, List.append_assoc]; exact hsplit
      · refine ⟨false, ?_, fun h => by cases h⟩
        refine Ev.step (fun q => by rw [coppicerref_Post.f]) ?_
        refine Ev.neg h1 ?_
        refine Ev.bind hE ?_
        refine Ev.neg h2 ?_
        exact Ev.now _
end Go.Proofs.Ythgiiikjcfhgjaa.PCM
namespace Go.Proofs.Ythgiiikjcfhgjaa.Pure
open Go.RowKit Go.Proofs.Ythgiiikjcfhgjaa.GC Go.Proofs.YthgiiikjcfhgjaaW.PrintWords Go.Proofs.YthgiiikjcfhgjaaW.PrintLast Go.Proofs.Ythgiiikjcfhgjaa.PCM

theorem ClimbBack : coppicerkeep_ClimbBack.Pure := by
  intro ops l _ _
  refine Ev.rounds ?_
  obtain ⟨e, hE, hiff⟩ := ref_spec ops l false
  have hop : Ev (fun q => coppicerkeep_operated.f q ops l false) (e == 0) := Ev.congr (fun q => by rw [coppicerkeep_operated.f]) (Ev.bind hE (Ev.now _))
  by_cases hc : Chk ops l false
  · have he : (e == 0) = true := by rw [beq_iff_eq]; exact hiff.2 hc
    rw [he] at hop
    have hS := (show_spec ops l).1 hc
    rcases showT_cases ops l hc with ⟨t, ht, rfl, hb⟩ | ⟨hno, hs5⟩
    · rw [hb, showT] at hS
      by_cases hlen : (t.signs (lvO ops) (rgO ops)).length > 60
      · rw [if_pos hlen] at hS
        refine Ev.congr (fun q => by rw [coppicerkeep_ClimbBack.f]) ?_
        refine Ev.bind hS ?_
        refine Ev.bind hop ?_
        refine Ev.pos rfl ?_
        refine Ev.neg (by decide) ?_
        refine Ev.pos rfl ?_
        refine Ev.pos rfl ?_
        refine Ev.step (fun q => by rw [coppicerkeep_ClimbBack.j0]) ?_
        exact Ev.now _
      · rw [if_neg hlen] at hS
        have hR := back_spec ops _ _ hc t ht (by omega)
        have hI := ints_spec t.post t.post (by have := hc.len; omega)
        rw [decide_eq_true rfl] at hI
        refine Ev.congr (fun q => by rw [coppicerkeep_ClimbBack.f]) ?_
        refine Ev.bind hS ?_
        refine Ev.bind hop ?_
        refine Ev.pos rfl ?_
        refine Ev.pos rfl ?_
        refine Ev.bind hR ?_
        refine Ev.pos rfl ?_
        refine Ev.bind hI ?_
        exact Ev.now _
    · rw [hs5] at hS
      obtain ⟨b, hP, hb⟩ := post_spec ops.length l.length l (Nat.le_refl _) hc.len hc.signs
      have hbf : b = false := by
        cases b with
        | false => rfl
        | true => exact absurd (hb rfl) hno
      subst hbf
      refine Ev.congr (fun q => by rw [coppicerkeep_ClimbBack.f]) ?_
      refine Ev.bind hS ?_
      refine Ev.bind hop ?_
      refine Ev.pos rfl ?_
      refine Ev.neg (by decide) ?_
      refine Ev.pos rfl ?_
      refine Ev.neg (by decide) ?_
      refine Ev.bind hP ?_
      refine Ev.step (fun q => by rw [coppicerkeep_ClimbBack.j0]) ?_
      exact Ev.now _
  · have he : (e == 0) = false := by rw [beq_eq_false_iff_ne]; exact fun h => hc (hiff.1 h)
    rw [he] at hop
    obtain ⟨e', he', hS⟩ := (show_spec ops l).2 hc
    refine Ev.congr (fun q => by rw [coppicerkeep_ClimbBack.f]) ?_
    refine Ev.bind hS ?_
    refine Ev.bind hop ?_
    refine Ev.neg (by decide) ?_
    exact Ev.val (show some (e' != 0) = some true by rw [bne_iff_ne.2 he'])

end Go.Proofs.Ythgiiikjcfhgjaa.Pure
