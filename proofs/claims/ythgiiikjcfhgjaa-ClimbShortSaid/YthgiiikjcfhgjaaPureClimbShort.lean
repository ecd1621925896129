/- ClimbShort, the part over lists: what is shown of what was read has no more signs, and is read as the same. Conditions: none. -/
import Derived.Test.YthgiiikjcfhgjaaPCClimbs
import Derived.Test.YthgiiikjcfhgjaaGC9
namespace Go.Proofs.Ythgiiikjcfhgjaa.Pure
set_option linter.unusedVariables false
set_option linter.unusedSimpArgs false
open Go.RowKit Go.Proofs.Ythgiiikjcfhgjaa.GC Go.Proofs.YthgiiikjcfhgjaaW.PrintWords Go.Proofs.YthgiiikjcfhgjaaW.PrintLast Go.Proofs.Ythgiiikjcfhgjaa.PCM

theorem ClimbShort : coppicerkeep_ClimbShort.Pure := by
  intro ops l _ _
  refine Ev.rounds ?_
  obtain ⟨e, hE, hiff⟩ := ref_spec ops l true
  have hop : Ev (fun q => coppicerkeep_operated.f q ops l true) (e == 0) := Ev.congr (fun q => by rw [coppicerkeep_operated.f]) (Ev.bind hE (Ev.now _))
  by_cases hc : Chk ops l true
  · have he : (e == 0) = true := by rw [beq_iff_eq]; exact hiff.2 hc
    rw [he] at hop
    have hR := (read_spec ops l).1 hc
    cases hr : readP (lvO ops) (rgO ops) l [] [] 0 false with
    | none =>
      rw [hr, resT] at hR
      refine Ev.congr (fun q => by rw [coppicerkeep_ClimbShort.f]) ?_
      refine Ev.bind hR ?_
      refine Ev.bind hop ?_
      refine Ev.pos rfl ?_
      refine Ev.neg (by decide) ?_
      exact Ev.now _
    | some p =>
      rw [hr, resT] at hR
      have hN : ((ops.length : Int)) ≤ 99 := by have := hc.n; omega
      obtain ⟨t, ht, rfl, hlen⟩ := read_tree hc.hr hN (by omega) (fun x hx => by rcases hc.signs x hx with c | c | c; exact .inl c; exact .inr (.inl c); exact .inr (.inr c.2)) hr
      have hl60 := hc.len
      have hpl := post_len (lvO ops) (rgO ops) t
      have hc2 : Chk ops t.post false := ⟨hc.n, by omega, hc.pairs, post_ok _ t ht⟩
      have hS := (show_spec ops t.post).1 hc2
      have hb := build_post hN t ht [] []
      rw [List.append_nil, buildT] at hb
      rw [hb, showT, if_neg (by omega)] at hS
      have hR2 := back_spec ops _ _ hc t ht (by omega)
      have hI := ints_spec t.post t.post (by omega)
      rw [decide_eq_true rfl] at hI
      refine Ev.congr (fun q => by rw [coppicerkeep_ClimbShort.f]) ?_
      refine Ev.bind hR ?_
      refine Ev.bind hop ?_
      refine Ev.pos rfl ?_
      refine Ev.pos rfl ?_
      refine Ev.bind hS ?_
      refine Ev.bind hR2 ?_
      refine Ev.pos rfl ?_
      refine Ev.pos rfl ?_
      refine Ev.pos (by show ((t.signs (lvO ops) (rgO ops)).length : Int) ≤ (l.length : Int); omega) ?_
      refine Ev.bind hI ?_
      refine Ev.step (fun q => by rw [coppicerkeep_ClimbShort.j0]) ?_
      exact Ev.now _
  · have he : (e == 0) = false := by rw [beq_eq_false_iff_ne]; exact fun h => hc (hiff.1 h)
    rw [he] at hop
    obtain ⟨e', he', hR⟩ := (read_spec ops l).2 hc
    refine Ev.congr (fun q => by rw [coppicerkeep_ClimbShort.f]) ?_
    refine Ev.bind hR ?_
    refine Ev.bind hop ?_
    refine Ev.neg (by decide) ?_
    exact Ev.val (show some (e' != 0) = some true by rw [bne_iff_ne.2 he'])

end Go.Proofs.Ythgiiikjcfhgjaa.Pure
