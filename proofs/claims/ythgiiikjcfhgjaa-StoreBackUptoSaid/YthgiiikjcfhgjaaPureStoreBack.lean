/- The law StoreBack, as plain Lean: what Pack keeps comes back by Unpack as it was, and what Unpack takes is packed to the same bytes. Conditions: none beyond the kinds of the arguments and the bulk of what is read (at most 1048576). -/
import Derived.Test.YthgiiikjcfhgjaaPKStore
import Derived.Test.YthgiiikjcfhgjaaGK11
namespace Go.Proofs.Ythgiiikjcfhgjaa.Pure
set_option linter.unusedVariables false
set_option linter.unusedSimpArgs false
open Go.RowKit Go.Proofs.Ythgiiikjcfhgjaa.GK Go.Proofs.Ythgiiikjcfhgjaa.PKM Go.Proofs.YthgiiikjcfhgjaaW.PrintWords Go.Proofs.YthgiiikjcfhgjaaW.PrintLast Go.Proofs.YthgiiikjcfhgjaaW.PrintMore

theorem StoreBack : coppicerkeep_StoreBack.Pure := by
  intro sp root b _ hbulk _ hwb hlb
  have hb : isB b := fun x hx => wf_u8 (hwb.2.2 x hx)
  have hsp := bulk_len hbulk
  obtain ⟨s, hs, _⟩ := sound_ev sp root (wide_of (by omega))
  have hpk := pack_spec root (by omega) hs
  have J : Ev (fun k => coppicerkeep_StoreBack.j0 k b) true := by
    obtain ⟨r, hr, hrr⟩ := unpack_rd hb (by omega)
    refine Ev.step (fun k => by rw [coppicerkeep_StoreBack.j0]) (Ev.bind hr ?_)
    rcases hrr with ⟨h0, h1, h2, h3, h4⟩ | ⟨h0, h1, _⟩
    · have hlen : b.length = 2 * (numsT r.1 r.2.1).length + 4 := by
        conv => lhs; rw [h2]
        rw [List.length_append, bytesOf_len, sumOf_len]
      have hl : (numsT r.1 r.2.1).length = 2 + (spotsN r.1).length := by unfold numsT; simp; omega
      have hp := pack_spec r.2.1 (by omega) h4
      have e : packR true (numsT r.1 r.2.1) = (b, 0) := by
        unfold packR
        rw [if_pos ⟨rfl, (any_spec _).2 h3⟩, if_neg (by omega), ← h2]
      rw [e] at hp
      refine Ev.pos h0 (Ev.bind hp (Ev.pos rfl (Ev.bind (by_spec b b (by omega)) (Ev.eq (Ev.now _) (by simp)))))
    · refine Ev.neg h0 (Ev.eq (Ev.now _) ?_)
      rw [h1]; rfl
  refine Ev.rounds ?_
  unfold coppicerkeep_StoreBack.f
  refine Ev.bind hpk ?_
  unfold packR
  by_cases c : s = true ∧ (numsT sp root).any store_Pack_any.p = false
  · rw [if_pos c]
    by_cases c2 : 2 * (numsT sp root).length + 4 > 4000
    · rw [if_pos c2]
      exact Ev.neg (by decide) (Ev.pos rfl J)
    · rw [if_neg c2]
      obtain ⟨c0, c1⟩ := c
      subst c0
      refine Ev.pos rfl (Ev.bind (unpack_fw ((any_spec _).1 c1) (by omega) hs) (Ev.pos rfl (Ev.bind (same_spec sp root (wide_of (by omega)) (by have := spots_len sp; omega)) (Ev.pos rfl J))))
  · rw [if_neg c]
    exact Ev.neg (by decide) (Ev.pos rfl J)

end Go.Proofs.Ythgiiikjcfhgjaa.Pure
