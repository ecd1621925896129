/- The law StoreTold, as plain Lean: one byte changed ahead of the sum, or two side by side, are told by Unpack. Conditions: none beyond the kinds of the arguments and the bulk of what is read (at most 1048576). -/
import Derived.Test.YthgiiikjcfhgjaaPKStore
import Derived.Test.YthgiiikjcfhgjaaGK10
namespace Go.Proofs.Ythgiiikjcfhgjaa.Pure
set_option linter.unusedVariables false
set_option linter.unusedSimpArgs false
open Go.RowKit Go.Proofs.Ythgiiikjcfhgjaa.GK Go.Proofs.Ythgiiikjcfhgjaa.PKM Go.Proofs.YthgiiikjcfhgjaaW.PrintWords Go.Proofs.YthgiiikjcfhgjaaW.PrintLast Go.Proofs.YthgiiikjcfhgjaaW.PrintMore

set_option maxHeartbeats 4000000 in
theorem StoreTold : coppicerkeep_StoreTold.Pure := by
  intro sp root k x y _ hbulk _ hk hx hy
  have hx := wf_u8 hx
  have hy := wf_u8 hy
  have hk := wf_u16 hk
  have hsp := bulk_len hbulk
  obtain ⟨s, hs, hroot⟩ := sound_ev sp root (wide_of (by omega))
  have hpk := pack_spec root (by omega) hs
  refine Ev.rounds ?_
  unfold coppicerkeep_StoreTold.f
  refine Ev.bind hpk ?_
  unfold packR
  by_cases c : s = true ∧ (numsT sp root).any store_Pack_any.p = false
  case neg => rw [if_neg c]; exact Ev.neg (by decide) (Ev.now _)
  rw [if_pos c]
  by_cases c2 : 2 * (numsT sp root).length + 4 > 4000
  · rw [if_pos c2]; exact Ev.neg (by decide) (Ev.now _)
  rw [if_neg c2]
  obtain ⟨c0, c1⟩ := c
  subst c0
  have hfw := unpack_fw ((any_spec _).1 c1) (by omega) hs
  have hsame := same_spec sp root (wide_of (by omega)) (by have := spots_len sp; omega)
  have h1 := hroot rfl
  have hl : (numsT sp root).length = 2 + (spotsN sp).length := by unfold numsT; simp; omega
  have hl2 : 4 ≤ (spotsN sp).length := by
    match sp, h1 with
    | s :: r, _ => have := spotN_len s; rw [spotsN_cons, List.length_append]; omega
  have hbody := bytesOf_isB (numsT sp root)
  have hblen := bytesOf_len (numsT sp root)
  generalize hbd : bytesOf (numsT sp root) = body at *
  generalize hN : (numsT sp root).length = N at *
  have hlen : (body ++ sumOf body).length = 2 * N + 4 := by rw [List.length_append, sumOf_len, hblen]
  refine Ev.pos rfl (Ev.neg (by simp only [hlen]; omega) ?_)
  simp only [hlen]
  have ew : wrap64 (((2 * N + 4 : Nat) : Int) - 5) = 2 * (N : Int) - 1 := by rw [w64 (by omega) (by omega)]; omega
  simp only [ew]
  obtain ⟨n, hn⟩ : ∃ n : Nat, k % (2 * (N : Int) - 1) = n := ⟨(k % (2 * (N : Int) - 1)).toNat, by have := Int.emod_nonneg k (show 2 * (N : Int) - 1 ≠ 0 by omega); omega⟩
  have hn2 : (n : Int) < 2 * (N : Int) - 1 := by rw [← hn]; exact Int.emod_lt_of_pos _ (by omega)
  have ei : Int.tmod (wrap64 k) (2 * (N : Int) - 1) = n := by rw [w64 (by omega) (by omega), tm (by omega), hn]
  have ei1 : wrap64 ((n : Int) + 1) = ((n + 1 : Nat) : Int) := by rw [w64 (by omega) (by omega)]; rfl
  simp only [ei, ei1]
  clear ei ei1 ew hn
  refine Ev.neg (by omega) (Ev.let_ (Ev.pos (by simp only [List.length_nil]; omega) (Ev.let_ ?_)))
  rw [List.nil_append]
  simp only [hlen]
  refine Ev.pos (by omega) (Ev.pos (by omega) (Ev.let_ (Ev.pos (by omega) (Ev.pos (by omega) ?_))))
  rw [rd_nat, rd_nat, Int.toNat_natCast, Int.toNat_natCast]
  -- the bytes in three parts
  obtain ⟨p, a, b, r, rfl, hp⟩ : ∃ (p : List Int) (a b : Int) (r : List Int), body = p ++ a :: b :: r ∧ p.length = n := by
    refine ⟨body.take n, body[n]'(by omega), body[n + 1]'(by omega), body.drop (n + 2), ?_, by simp <;> omega⟩
    rw [← List.drop_eq_getElem_cons (by omega : n + 1 < body.length), ← List.drop_eq_getElem_cons (by omega : n < body.length), List.take_append_drop]
  have ha := hbody a (by simp)
  have hb := hbody b (by simp)
  obtain ⟨xa, ya⟩ := xor_byte ha hx
  obtain ⟨xb, yb⟩ := xor_byte hb hy
  generalize hsum : sumOf (p ++ a :: b :: r) = sm at *
  have g1 : (p ++ a :: b :: r ++ sm).getD n 0 = a := by simp [List.getD_eq_getElem?_getD, ← hp]
  rw [g1]
  generalize hxa : Go.bits .xor .u8 a x = a' at *
  have s1 : (p ++ a :: b :: r ++ sm).set n a' = p ++ a' :: b :: r ++ sm := by simp [List.set_append, ← hp]
  rw [s1]
  have g2 : (p ++ a' :: b :: r ++ sm).getD (n + 1) 0 = b := by simp [List.getD_eq_getElem?_getD, ← hp]
  rw [g2]
  generalize hxb : Go.bits .xor .u8 b y = b' at *
  have s2 : (p ++ a' :: b :: r ++ sm).set (n + 1) b' = p ++ a' :: b' :: r ++ sm := by simp [List.set_append, ← hp]
  rw [s2]
  by_cases e : x = 0 ∧ y = 0
  · obtain ⟨e1, e2⟩ := e
    rw [ya.2 e1, yb.2 e2]
    exact Ev.bind hfw (Ev.pos e1 (Ev.pos e2 (Ev.pos rfl (Ev.bind hsame (Ev.now _)))))
  · have hab : ¬ (a = a' ∧ b = b') := fun h => e ⟨ya.1 h.1.symm, yb.1 h.2.symm⟩
    have hB : isB (p ++ a' :: b' :: r ++ sm) := by
      intro z hz
      rcases List.mem_append.1 hz with hz | hz
      · rcases List.mem_append.1 hz with hz | hz
        · exact hbody z (by simp [hz])
        · rcases List.mem_cons.1 hz with rfl | hz
          · exact xa
          · rcases List.mem_cons.1 hz with rfl | hz
            · exact xb
            · exact hbody z (by simp [hz])
      · rw [← hsum] at hz; exact sumOf_isB _ z hz
    have hsl : sm.length = 4 := by rw [← hsum]; rfl
    have hcl : (p ++ a' :: b' :: r ++ sm).length = 2 * N + 4 := by rw [← hlen]; simp
    have hbl : (p ++ a' :: b' :: r).length = 2 * N := by rw [← hblen]; simp
    have ht : (p ++ a' :: b' :: r ++ sm).take ((p ++ a' :: b' :: r ++ sm).length - 4) = p ++ a' :: b' :: r := List.take_left' (by rw [hcl, hbl]; omega)
    have hd : (p ++ a' :: b' :: r ++ sm).drop ((p ++ a' :: b' :: r ++ sm).length - 4) = sm := List.drop_left' (by rw [hcl, hbl]; omega)
    have hne : sumOf (p ++ a' :: b' :: r) ≠ sm := by
      rw [← hsum]
      intro h
      unfold sumOf at h
      rw [ss_fold_app, ss_fold_app] at h
      exact hab (ss_told (ss_in_fold p _ (by unfold ss_in; simp)) ha hb xa xb r h.symm)
    obtain ⟨u, hu, huu⟩ := unpack_rd hB (by omega)
    refine Ev.bind hu ?_
    have h7 : u.2.2 = 7 ∧ u.1 = [] := by
      rcases huu with ⟨_, _, h2, _, _⟩ | ⟨_, h1, h2⟩
      · exfalso
        generalize bytesOf (numsT u.1 u.2.1) = z at h2
        have e1 : z.length = (p ++ a' :: b' :: r).length := by
          have := congrArg List.length h2
          rw [hcl, List.length_append, sumOf_len] at this
          omega
        have e2 := List.append_inj h2 e1.symm
        exact hne (by rw [e2.1, e2.2])
      · exact ⟨h2 (by omega) (by omega) (by rw [ht, hd]; exact hne), h1⟩
    obtain ⟨h7, h8⟩ := h7
    have hend : Ev (fun k : Nat => if u.2.2 = 7 then some ((u.1.length : Int) == 0) else some false) true := by
      refine Ev.pos h7 (Ev.eq (Ev.now _) ?_)
      rw [h8]; rfl
    by_cases e1 : x = 0
    · refine Ev.pos e1 (Ev.neg (fun e2 => e ⟨e1, e2⟩) hend)
    · exact Ev.neg e1 hend

end Go.Proofs.Ythgiiikjcfhgjaa.Pure
