/- The law TableJoins, as plain Lean: a rule with two names makes what these make, one behind the other. Conditions: none beyond the kinds of the arguments. -/
import Derived.Test.YtnkackiocigdoaaPHBit
import Derived.Test.YtnkackiocigdoaaGH9
namespace Go.Proofs.Ytnkackiocigdoaa.Pure
set_option linter.unusedVariables false
set_option linter.unusedSimpArgs false
open Go.RowKit Go.Proofs.Ytnkackiocigdoaa.GH Go.Proofs.Ytnkackiocigdoaa.PHM Go.Proofs.YtnkackiocigdoaaW.PrintWords Go.Proofs.YtnkackiocigdoaaW.PrintLast Go.Proofs.YtnkackiocigdoaaW.PrintMore

/-- A chain in a part of a word is one in the word. -/
theorem chain_part {k : Int} {v w : List Int} {o : Nat} (hl : o + v.length ≤ w.length) (he : ∀ i, i < v.length → w.getD (o + i) 0 = v.getD i 0) {R : Int → Nat → Nat → Prop} : ∀ {l : List Int} {i j : Nat}, ChainR k v (fun x i j => R x (o + i) (o + j)) l i j → ChainR k w R l (o + i) (o + j)
  | [], i, j, h => by
    have h : i = j := h
    show o + i = o + j
    omega
  | x :: l, i, j, ⟨m, hs, hc⟩ => by
    refine ⟨o + m, ⟨by have := hs.1; omega, ?_⟩, chain_part hl he hc⟩
    rcases hs.2 with h | ⟨h1, h2, h3, h4⟩
    · exact .inl h
    · exact .inr ⟨h1, by omega, by rw [he i h2, h3], by omega⟩
theorem part_made {k n : Int} {v w : List Int} {rs : List S27} {Tv Tw : List (List Int)} (Fv : Filled k n v rs Tv) (Fw : Filled k n w rs Tw) {o : Nat} (ho : o + v.length ≤ w.length) (he : ∀ i, i < v.length → w.getD (o + i) 0 = v.getD i 0) {x : Int} (hx : 0 ≤ x) (h : famT Tv x 0 v.length) : famT Tw x o (o + v.length) := by
  have := Fv.sound (fun x i j => famT Tw x (o + i) (o + j)) (fun r hr i j hi hc => Fw.closed r hr (o + i) (o + j) (by omega) (chain_part ho he hc)) x 0 v.length hx h
  exact this
theorem joins_l0 {k n s : Int} {rs : List S27} (g : GoodG k n s rs) {w : List Int} (hw : w.length ≤ 12) {A B C : Nat} (hA : A < 4294967296) (hB : B < 4294967296) (hC : C < 4294967296)
    (h2 : ∀ r ∈ rs, ∀ x y, r.f1 = [x, y] → k ≤ x → k ≤ y → A.testBit (x - k).toNat = true → B.testBit (y - k).toNat = true → C.testBit r.f0.toNat = true)
    (h1 : ∀ r ∈ rs, r.f1 = w → C.testBit r.f0.toNat = true) : ∀ (d p : Nat), p + d = rs.length → Ev (fun q => coppicerkeep_TableJoins.l0 q (A : Int) (B : Int) w (C : Int) rs (rs.length : Int) (p : Int) k n s rs) true := by
  have hlen := g.len
  have hk1 := g.k1
  have hk3 := g.k3
  have hn5 := g.n5
  intro d
  induction d with
  | zero =>
    intro p hp
    refine Ev.step (fun q => by rw [coppicerkeep_TableJoins.l0]) ?_
    refine Ev.neg (by omega) ?_
    exact Ev.now _
  | succ d ih =>
    intro p hp
    have hlt : p < rs.length := by omega
    have hr : rs.getD p z27 ∈ rs := getD_mem hlt
    have gr := g.rule _ hr
    have hsm := g.small _ hr
    have hn := ih (p + 1) (by omega)
    have q1 := h1 _ hr
    have q2 := h2 _ hr
    have h0 := gr.l0
    have hl1 := gr.l1
    have hsg := gr.sg
    have j3 : Ev (fun q => coppicerkeep_TableJoins.j3 q (A : Int) (B : Int) w (C : Int) rs (rs.length : Int) (p : Int) false k n s rs (rs.getD p z27).f0 (rs.getD p z27).f1) true := by
      refine Ev.step (fun q => by rw [coppicerkeep_TableJoins.j3]) ?_
      refine Ev.neg (by decide) ?_
      refine Ev.bind (ints_spec _ _ (by omega)) ?_
      rw [w64 (n := (p : Int) + 1) (by omega) (by omega)]
      by_cases c : (rs.getD p z27).f1 = w
      · refine Ev.pos (by simpa using c) ?_
        refine Ev.bindc (ref_bit hC h0 (by omega)) ?_
        refine Ev.pos (q1 c) ?_
        exact hn
      · exact Ev.neg (by simpa using c) hn
    refine Ev.step (fun q => by rw [coppicerkeep_TableJoins.l0]) ?_
    refine Ev.pos (by omega) ?_
    refine Ev.pos (by omega) ?_
    refine Ev.pos (by omega) ?_
    rw [rdR_nat]
    generalize rs.getD p z27 = r at *
    by_cases c2 : (r.f1.length : Int) = 2
    · refine Ev.pos c2 ?_
      refine Ev.pos (by omega) ?_
      obtain ⟨x, y, hxy⟩ : ∃ x y, r.f1 = [x, y] := by
        match hf : r.f1, c2 with
        | [x, y], _ => exact ⟨x, y, rfl⟩
      have e0 : rd r.f1 0 = x := by rw [hxy]; rfl
      have e1 : rd r.f1 1 = y := by rw [hxy]; rfl
      have hx := hsg x (by rw [hxy]; simp)
      have hy := hsg y (by rw [hxy]; simp)
      rw [e0, e1]
      by_cases c3 : x ≥ k
      · refine Ev.pos c3 ?_
        refine Ev.pos (by omega) ?_
        by_cases c4 : y ≥ k
        · refine Ev.pos c4 ?_
          rw [w64 (n := x - k) (by omega) (by omega), w64 (n := y - k) (by omega) (by omega)]
          refine Ev.bindc (ref_bit hA (by omega) (by omega)) ?_
          by_cases c5 : A.testBit (x - k).toNat = true
          · refine Ev.pos c5 ?_
            refine Ev.bindc (ref_bit hB (by omega) (by omega)) ?_
            by_cases c6 : B.testBit (y - k).toNat = true
            · refine Ev.pos c6 ?_
              refine Ev.bindc (ref_bit hC h0 (by omega)) ?_
              rw [q2 x y hxy c3 c4 c5 c6]
              exact j3
            · exact Ev.neg c6 j3
          · exact Ev.neg c5 j3
        · exact Ev.neg c4 j3
      · exact Ev.neg c3 j3
    · exact Ev.neg c2 j3
theorem TableJoins : coppicerkeep_TableJoins.Pure := by
  intro k n s rs u v _ _ _ wr wu wv
  have hul := wu.2.1
  have hvl := wv.2.1
  refine Ev.rounds ?_
  refine Ev.congr (fun q => by rw [coppicerkeep_TableJoins.f]) ?_
  obtain ⟨t, htb, hti⟩ := grown_spec (k := k) (n := n) (s := s) (rs := rs) u
  obtain ⟨t2, htb2, hti2⟩ := grown_spec (k := k) (n := n) (s := s) (rs := rs) v
  by_cases gu : GoodG k n s rs ∧ GoodW k u
  · obtain ⟨gg, gu⟩ := gu
    obtain ⟨Tu, A, Fu, hA, hAb, hNu⟩ := names_good gg gu
    have hp : 2 ^ n.toNat ≤ 128 := pow_le7 (by have := gg.n5; omega)
    refine Ev.bind hNu ?_
    by_cases gv : GoodW k v
    · obtain ⟨Tv, B, Fv, hB, hBb, hNv⟩ := names_good gg gv
      have hu12 := gu.1
      have hv12 := gv.1
      refine Ev.bind hNv ?_
      refine Ev.bind htb ?_
      refine Ev.pos (hti.2 ⟨gg, gu⟩) ?_
      refine Ev.bind htb2 ?_
      rw [hti2.2 ⟨gg, gv⟩]
      refine Ev.step (fun q => by rw [coppicerkeep_TableJoins.j0]) ?_
      refine Ev.neg (by decide) ?_
      refine Ev.let_ ?_
      refine Ev.pos (by rw [List.length_nil]; omega) ?_
      refine Ev.let_ ?_
      rw [List.nil_append]
      refine Ev.pos (by omega) ?_
      refine Ev.let_ ?_
      by_cases c : u.length + v.length ≤ 12
      · have gw : GoodW k (u ++ v) := ⟨by rw [List.length_append]; exact c, fun x hx => (List.mem_append.1 hx).elim (gu.2 x) (gv.2 x)⟩
        obtain ⟨Tw, C, Fw, hC, hCb, hNw⟩ := names_good gg gw
        refine Ev.bind hNw ?_
        refine Ev.pos rfl ?_
        refine Ev.step (fun q => by rw [coppicerkeep_TableJoins.j1]) ?_
        refine Ev.neg (show ¬ ((0 : Int) != 0) = true by decide) ?_
        refine Ev.neg (by rw [List.length_append]; omega) ?_
        refine Ev.pos rfl ?_
        have hwl : (u ++ v).length = u.length + v.length := List.length_append
        refine joins_l0 gg (by omega) (by omega) (by omega) (by omega) (fun r hr x y hxy hx hy ha hb => ?_) (fun r hr hrw => ?_) rs.length 0 (by omega)
        · have gr := gg.rule r hr
          have h0 := gr.l0
          have h1 := gr.l1
          rw [hAb, Bool.and_eq_true] at ha
          rw [hBb, Bool.and_eq_true] at hb
          have m1 : famT Tw (x - k) 0 (0 + u.length) := part_made Fu Fw (o := 0) (by omega) (fun i hi => by
            rw [Nat.zero_add, List.getD_eq_getElem?_getD, List.getElem?_append_left hi, List.getD_eq_getElem?_getD]) (by omega) ha.2
          have m2 : famT Tw (y - k) u.length (u.length + v.length) := part_made Fv Fw (o := u.length) (by omega) (fun i hi => by
            rw [List.getD_eq_getElem?_getD, List.getElem?_append_right (by omega), List.getD_eq_getElem?_getD, Nat.add_sub_cancel_left]) (by omega) hb.2
          rw [Nat.zero_add] at m1
          have h3 := Fw.closed r hr 0 (u.length + v.length) (by omega) (by
            rw [hxy]
            exact ⟨u.length, ⟨by omega, .inl ⟨hx, m1⟩⟩, u.length + v.length, ⟨by omega, .inl ⟨hy, m2⟩⟩, rfl⟩)
          have h4 : (tb Tw r.f0 0).testBit (u.length + v.length) = true := h3
          rw [hCb, hwl, show ((r.f0.toNat : Nat) : Int) = r.f0 by omega, h4, decide_eq_true h1]
          rfl
        · have gr := gg.rule r hr
          have h0 := gr.l0
          have h1 := gr.l1
          have h3 := Fw.closed r hr 0 (u ++ v).length (by omega) (by
            have := chain_word gw (famT Tw) (u ++ v).length 0 (by omega)
            rw [List.drop_zero] at this
            rw [hrw]
            exact this)
          have h4 : (tb Tw r.f0 0).testBit (u ++ v).length = true := h3
          rw [hCb, show ((r.f0.toNat : Nat) : Int) = r.f0 by omega, h4, decide_eq_true h1]
          rfl
      · obtain ⟨e, he0, he⟩ := names_bad (k := k) (n := n) (s := s) (rs := rs) (w := u ++ v) (fun h => by
          have := h.2.1
          rw [List.length_append] at this
          omega)
        refine Ev.bind he ?_
        refine Ev.pos rfl ?_
        refine Ev.step (fun q => by rw [coppicerkeep_TableJoins.j1]) ?_
        refine Ev.neg (show ¬ ((0 : Int) != 0) = true by decide) ?_
        refine Ev.pos (by rw [List.length_append]; omega) (Ev.val ?_)
        simpa using he0
    · obtain ⟨e, he0, he⟩ := names_bad (k := k) (n := n) (s := s) (rs := rs) (w := v) (fun h => gv h.2)
      refine Ev.bind he ?_
      refine Ev.bind htb ?_
      refine Ev.pos (hti.2 ⟨gg, gu⟩) ?_
      refine Ev.bind htb2 ?_
      rw [Bool.eq_false_iff.2 (fun h => gv (hti2.1 h).2)]
      refine Ev.step (fun q => by rw [coppicerkeep_TableJoins.j0]) ?_
      refine Ev.pos rfl ?_
      refine Ev.pos rfl (Ev.val ?_)
      simpa using he0
  · obtain ⟨e, he0, he⟩ := names_bad gu
    have : ∃ r, Ev (fun q => table_Names.f q k n s rs v) r := by
      by_cases gv : GoodG k n s rs ∧ GoodW k v
      · obtain ⟨_, _, _, _, _, h⟩ := names_good gv.1 gv.2
        exact ⟨_, h⟩
      · obtain ⟨_, _, h⟩ := names_bad gv
        exact ⟨_, h⟩
    obtain ⟨r, hr⟩ := this
    refine Ev.bind he ?_
    refine Ev.bind hr ?_
    refine Ev.bind htb ?_
    refine Ev.neg (fun h => gu (hti.1 h)) ?_
    refine Ev.step (fun q => by rw [coppicerkeep_TableJoins.j0]) ?_
    refine Ev.pos rfl ?_
    exact Ev.neg he0 (Ev.now _)
end Go.Proofs.Ytnkackiocigdoaa.Pure
