/- The law TallyPump, as plain Lean: of as many symbols as there are states some part may come again, or not at all, and it leads where it led. Conditions: none beyond the kinds of the arguments. -/
import Derived.Test.YtiiankjmeodjdaaPGGood
import Derived.Test.YtiiankjmeodjdaaPGMachine
import Derived.Test.YtiiankjmeodjdaaGG7
namespace Go.Proofs.Ytiiankjmeodjdaa.Pure
set_option linter.unusedVariables false
set_option linter.unusedSimpArgs false
open Go.RowKit Go.Proofs.Ytiiankjmeodjdaa.GG Go.Proofs.Ytiiankjmeodjdaa.PGM Go.Proofs.YtiiankjmeodjdaaW.PrintWords Go.Proofs.YtiiankjmeodjdaaW.PrintLast Go.Proofs.YtiiankjmeodjdaaW.PrintMore

/-- Numbers below m, each once, are no more than m. -/
theorem nodup_le : ∀ (m : Nat) (l : List Int), l.Nodup → (∀ x ∈ l, 0 ≤ x ∧ x < m) → l.length ≤ m
  | 0, [], _, _ => Nat.le_refl _
  | 0, x :: l, _, h => by have := h x List.mem_cons_self; omega
  | m + 1, l, hn, h => by
    by_cases hm : (m : Int) ∈ l
    · have h1 := nodup_le m (l.erase (m : Int)) (hn.erase _) (fun x hx => by
        have h2 := (hn.mem_erase_iff).1 hx
        have h3 := h x h2.2
        have h4 := h2.1
        omega)
      rw [List.length_erase_of_mem hm] at h1
      omega
    · have := nodup_le m l hn (fun x hx => by
        have h3 := h x hx
        have : x ≠ (m : Int) := fun e => hm (e ▸ hx)
        omega)
      omega
theorem pump_go {n k : Int} {nx : List (List Int)} {st f : Int} (h : GoodM n k nx st f) {w : List Int} (hw : GoodW k w) : ∀ (d p : Nat) (sts : List Int), p + d = w.length → sts.length = p + 1 → sts.Nodup → (∀ x ∈ sts, 0 ≤ x ∧ x < n) → (∀ q, q ≤ p → sts.getD q 0 = leads nx st (w.take q)) →
    ∃ r, tally_Pump.go nx sts (leads nx st (w.take p)) (w.drop p) = some r ∧ ((r = (0, 0, 5) ∧ (w.length : Int) < n) ∨ ∃ i j : Nat, r = ((i : Int), (j : Int), 0) ∧ i < j ∧ j ≤ w.length ∧ (j : Int) ≤ n ∧ leads nx st (w.take i) = leads nx st (w.take j)) := by
  intro d
  induction d with
  | zero =>
    intro p sts hp hl hn hin hst
    rw [List.drop_eq_nil_of_le (by omega), tally_Pump.go]
    have hN : (n.toNat : Int) = n := by have := h.n1; omega
    have := nodup_le n.toNat sts hn (fun x hx => by rw [hN]; exact hin x hx)
    exact ⟨_, rfl, .inl ⟨rfl, by omega⟩⟩
  | succ d ih =>
    intro p sts hp hl hn hin hst
    have hlt : p < w.length := by omega
    have hwl := hw.1
    have hs := hw.2 _ (getD_mem (d := (0 : Int)) hlt)
    have ha : 0 ≤ leads nx st (w.take p) ∧ leads nx st (w.take p) < n := leads_in h (fun s hs => hw.2 s (List.mem_of_mem_take hs)) ⟨h.s0, h.s1⟩
    have hx := stepM_in h ha hs
    have e1 := h.len
    have hm2 : nx.getD (leads nx st (w.take p)).toNat [] ∈ nx := getD_mem (by omega)
    have e2 := h.row _ hm2
    have hn7 := h.n7
    have hN : (n.toNat : Int) = n := by have := h.n1; omega
    have e3 : leads nx st (w.take (p + 1)) = stepM nx (leads nx st (w.take p)) (w.getD p 0) := by
      unfold leads
      rw [List.take_succ_eq_append_getElem hlt, List.foldl_append, List.getD_eq_getElem?_getD, List.getElem?_eq_getElem hlt]
      rfl
    rw [drop_cons hlt 0, tally_Pump.go]
    rw [show (nx.getD (leads nx st (w.take p)).toNat []).getD (w.getD p 0).toNat 0 = leads nx st (w.take (p + 1)) from e3.symm]
    rw [← e3] at hx
    rw [if_pos ⟨ha.1, by omega, hs.1, by omega, by omega, by omega, by omega⟩]
    by_cases c : leads nx st (w.take (p + 1)) ∈ sts
    · rw [if_pos c]
      have hi := List.idxOf_lt_length_of_mem c
      have hj := nodup_le n.toNat sts hn (fun x hx => by rw [hN]; exact hin x hx)
      refine ⟨_, rfl, .inr ⟨_, sts.length, rfl, hi, by omega, by omega, ?_⟩⟩
      rw [← hst _ (by omega), hl, List.getD_eq_getElem?_getD, List.getElem?_eq_getElem hi, Option.getD_some]
      exact List.getElem_idxOf hi
    · rw [if_neg c]
      refine ih (p + 1) _ (by omega) (by rw [List.length_append, hl]; rfl) ?_ (fun x hx2 => ?_) (fun q hq => ?_)
      · rw [List.nodup_append]
        refine ⟨hn, by simp, fun a ha b hb => ?_⟩
        rw [List.mem_singleton] at hb
        subst hb
        exact fun e => c (e ▸ ha)
      · rcases List.mem_append.1 hx2 with hx2 | hx2
        · exact hin x hx2
        · rw [List.mem_singleton] at hx2
          rw [hx2]
          exact hx
      · by_cases c2 : q = p + 1
        · subst c2
          rw [List.getD_eq_getElem?_getD, List.getElem?_append_right (by omega), hl, Nat.sub_self]
          rfl
        · rw [List.getD_eq_getElem?_getD, List.getElem?_append_left (by omega), ← List.getD_eq_getElem?_getD]
          exact hst q (by omega)
theorem leads_app {nx : List (List Int)} {a : Int} {u v : List Int} : leads nx a (u ++ v) = leads nx (leads nx a u) v := by unfold leads; rw [List.foldl_append]
theorem TallyPump : coppicerkeep_TallyPump.Pure := by
  intro n k nx st f w often _ _ _ wst wf ww wo
  obtain ⟨f0, f1⟩ := wf_u32 wf
  obtain ⟨o0, o1⟩ := wf_u8 wo
  obtain ⟨s0, s1⟩ := wf_i64 wst
  have f1' : f < 4294967296 := by omega
  obtain ⟨b, hb, hbi⟩ := good_spec (n := n) (k := k) (nx := nx) (s := st) f0 f1' w
  refine Ev.rounds ?_
  refine Ev.congr (fun q => by rw [coppicerkeep_TallyPump.f]) ?_
  by_cases g : GoodM n k nx st f ∧ GoodW k w
  · obtain ⟨gm, gw⟩ := g
    have hr := run_good gm f0 f1' w gw
    obtain ⟨r, hgo, hc⟩ := pump_go gm gw w.length 0 [st] (by omega) rfl (by simp) (fun x hx => by
      rw [List.mem_singleton] at hx
      rw [hx]
      exact ⟨gm.s0, gm.s1⟩) (fun q hq => by
      obtain rfl : q = 0 := by omega
      rfl)
    rw [List.take_zero, List.drop_zero] at hgo
    have hp : Ev (fun q => tally_Pump.f q n k nx st f w) r := by
      refine Ev.congr (fun q => by rw [tally_Pump.f]) ?_
      refine Ev.bind hr ?_
      refine Ev.pos rfl ?_
      refine Ev.pos ⟨s0, s1⟩ (Ev.val ?_)
      exact hgo
    refine Ev.bind hp ?_
    refine Ev.bind hb ?_
    refine Ev.pos (hbi.2 ⟨gm, gw⟩) ?_
    rcases hc with ⟨rfl, hl⟩ | ⟨i, j, rfl, hij, hjw, hjn, he⟩
    · refine Ev.neg (show ¬ (5 : Int) = 0 by decide) ?_
      refine Ev.pos rfl (Ev.val ?_)
      rw [decide_eq_true hl]
    · have hwl := gw.1
      refine Ev.pos rfl ?_
      refine Ev.neg (show ¬ (i : Int) < 0 by omega) ?_
      refine Ev.neg (show ¬ (j : Int) ≤ (i : Int) by omega) ?_
      refine Ev.neg (show ¬ (j : Int) > (w.length : Int) by omega) ?_
      rw [decide_eq_false (show ¬ (j : Int) > n by omega)]
      refine Ev.step (fun q => by rw [coppicerkeep_TallyPump.j0]) ?_
      refine Ev.neg (by decide) ?_
      refine Ev.let_ ?_
      refine Ev.pos (show (0 : Int) ≤ (i : Int) by omega) ?_
      refine Ev.pos (show (i : Int) ≤ (w.length : Int) by omega) ?_
      rw [List.nil_append, Int.toNat_natCast]
      have htl : (w.take i).length ≤ 12 := by rw [List.length_take]; omega
      refine Ev.pos (by rw [List.length_nil]; omega) ?_
      have hmid : ((w.take j).drop i).length ≤ 12 := by rw [List.length_drop, List.length_take]; omega
      have hA : leads nx (leads nx st (w.take i)) ((w.take j).drop i) = leads nx st (w.take i) := by
        rw [← leads_app]
        have e : w.take i ++ (w.take j).drop i = w.take j := by
          have := List.take_append_drop i (w.take j)
          rw [List.take_take, Nat.min_eq_left (by omega)] at this
          exact this
        rw [e, he]
      have hB : leads nx (leads nx st (w.take i)) (w.drop j) = leads nx st w := by
        rw [he, ← leads_app, List.take_append_drop]
      have e4 : Int.tmod (wrap64 often) 4 = often % 4 := by rw [w64 (by omega) (by omega), tm o0]
      have loop : ∀ (d p : Nat) (acc : List Int), (p : Int) + d = often % 4 → acc.length ≤ 12 + 12 * p → (∀ s ∈ acc, 0 ≤ s ∧ s < k) → leads nx st acc = leads nx st (w.take i) →
          Ev (fun q => coppicerkeep_TallyPump.l0 q w often (i : Int) (j : Int) acc (p : Int) n k nx st f) true := by
        intro d
        induction d with
        | zero =>
          intro p acc hp hal has hld
          have hdl : (w.drop j).length ≤ 12 := by rw [List.length_drop]; omega
          refine Ev.step (fun q => by rw [coppicerkeep_TallyPump.l0]) ?_
          rw [e4]
          refine Ev.neg (by omega) ?_
          refine Ev.pos (by omega) ?_
          refine Ev.pos (by omega) ?_
          rw [Int.toNat_natCast]
          refine Ev.pos (by omega) ?_
          refine Ev.let_ ?_
          refine Ev.bind hr ?_
          have e5 : leads nx st (acc ++ w.drop j) = leads nx st w := by rw [leads_app, hld, hB]
          by_cases gy : (acc ++ w.drop j).length ≤ 12
          · have gy2 : GoodW k (acc ++ w.drop j) := ⟨gy, fun s hs => (List.mem_append.1 hs).elim (has s) (fun h2 => gw.2 s (List.mem_of_mem_drop h2))⟩
            have hr2 := run_good gm f0 f1' _ gy2
            refine Ev.bind hr2 ?_
            refine Ev.pos rfl ?_
            refine Ev.neg (by omega) ?_
            refine Ev.pos rfl ?_
            refine Ev.pos e5.symm (Ev.val ?_)
            rw [e5]
            simp
          · obtain ⟨e, he0, hee⟩ := run_bad (n := n) (k := k) (nx := nx) (st := st) f0 f1' (acc ++ w.drop j) (fun h => gy h.2.1)
            refine Ev.bind hee ?_
            refine Ev.pos rfl ?_
            refine Ev.pos (by omega) ?_
            exact Ev.neg he0 (Ev.now _)
        | succ d ihd =>
          intro p acc hp hal has hld
          refine Ev.step (fun q => by rw [coppicerkeep_TallyPump.l0]) ?_
          rw [e4]
          refine Ev.pos (by omega) ?_
          refine Ev.pos (by omega) ?_
          refine Ev.pos (by omega) ?_
          refine Ev.pos (by omega) ?_
          rw [Int.toNat_natCast, Int.toNat_natCast]
          refine Ev.pos (by omega) ?_
          rw [w64 (n := (p : Int) + 1) (by omega) (by omega)]
          refine ihd (p + 1) _ (by omega) (by rw [List.length_append]; omega) (fun s hs => (List.mem_append.1 hs).elim (has s) (fun h2 => gw.2 s (List.mem_of_mem_take (List.mem_of_mem_drop h2)))) ?_
          rw [leads_app, hld, hA]
      exact loop (often % 4).toNat 0 (w.take i) (by omega) (by omega) (fun s hs => gw.2 s (List.mem_of_mem_take hs)) rfl
  · obtain ⟨e, he0, he⟩ := run_bad f0 f1' w g
    have hp : Ev (fun q => tally_Pump.f q n k nx st f w) (0, 0, e) := by
      refine Ev.congr (fun q => by rw [tally_Pump.f]) ?_
      refine Ev.bind he ?_
      exact Ev.neg he0 (Ev.now _)
    refine Ev.bind hp ?_
    refine Ev.bind hb ?_
    refine Ev.neg (fun h => g (hbi.1 h)) (Ev.val ?_)
    simpa using he0
end Go.Proofs.Ytiiankjmeodjdaa.Pure
