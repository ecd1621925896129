/- The law NetBack, as plain Lean: a net turned round takes the words turned round; and turned round twice it is as it was. Conditions: none beyond the kinds of the arguments. -/
import Derived.Test.YtiiankjmeodjdaaPHWay
import Derived.Test.YtiiankjmeodjdaaPHNetted
import Derived.Test.YtiiankjmeodjdaaGH9
namespace Go.Proofs.Ytiiankjmeodjdaa.Pure
set_option linter.unusedVariables false
set_option linter.unusedSimpArgs false
open Go.RowKit Go.Proofs.Ytiiankjmeodjdaa.GH Go.Proofs.Ytiiankjmeodjdaa.PHM Go.Proofs.YtiiankjmeodjdaaW.PrintWords Go.Proofs.YtiiankjmeodjdaaW.PrintLast Go.Proofs.YtiiankjmeodjdaaW.PrintMore

theorem back_l0 {n k st f : Int} {arcs : List S27} (hl : arcs.length ≤ 1000) : ∀ (d i : Nat) (cur : List S27), i + d = arcs.length → cur = (arcs.take i).map turnA ++ arcs.drop i →
    Ev (fun q => net_Back.l0 q cur (arcs.length : Int) (i : Int) n k cur st f) (n, k, arcs.map turnA, f, st, 0) := by
  intro d
  induction d with
  | zero =>
    intro i cur hi hc
    rw [List.take_of_length_le (by omega), List.drop_eq_nil_of_le (by omega), List.append_nil] at hc
    refine Ev.step (fun q => by rw [net_Back.l0]) ?_
    refine Ev.neg (by omega) ?_
    rw [hc]
    exact Ev.now _
  | succ d ih =>
    intro i cur hi hc
    have hlt : i < arcs.length := by omega
    have hA : ((arcs.take i).map turnA).length = i := by rw [List.length_map, List.length_take]; omega
    have hcl : cur.length = arcs.length := by rw [hc, List.length_append, hA, List.length_drop]; omega
    have hget : cur.getD i z27 = arcs.getD i z27 := by
      rw [hc, List.getD_eq_getElem?_getD, List.getElem?_append_right (by omega), hA, Nat.sub_self, List.getElem?_drop, Nat.add_zero, List.getD_eq_getElem?_getD]
    refine Ev.step (fun q => by rw [net_Back.l0]) ?_
    refine Ev.pos (by omega) ?_
    refine Ev.pos (by omega) ?_
    refine Ev.pos (by omega) ?_
    refine Ev.pos (by omega) ?_
    refine Ev.let_ ?_
    rw [w64 (n := (i : Int) + 1) (by omega) (by omega), rdT_nat, rdT_nat, Int.toNat_natCast, hget]
    have hs : (cur.set i (⟨(arcs.getD i z27).f2, (arcs.getD i z27).f1, (arcs.getD i z27).f2⟩ : S27)).getD i z27 = ⟨(arcs.getD i z27).f2, (arcs.getD i z27).f1, (arcs.getD i z27).f2⟩ := by
      rw [List.getD_eq_getElem?_getD, List.getElem?_set_self (by omega), Option.getD_some]
    rw [hs, List.set_set]
    refine ih (i + 1) _ (by omega) ?_
    rw [hc, List.set_append_right _ _ (by omega), hA, Nat.sub_self, drop_cons hlt z27, List.set_cons_zero, List.take_succ_eq_append_getElem hlt, List.map_append, List.append_assoc]
    congr 1
    rw [List.getD_eq_getElem?_getD, List.getElem?_eq_getElem hlt]
    rfl
theorem back_good {n k st f : Int} {arcs : List S27} (g : GoodN n k arcs st f) (s0 : 0 ≤ st) (s1 : st < 4294967296) (f0 : 0 ≤ f) (f1 : f < 4294967296) : Ev (fun q => net_Back.f q n k arcs st f) (n, k, arcs.map turnA, f, st, 0) := by
  obtain ⟨e, he, hi⟩ := netcheck_spec (n := n) (k := k) (arcs := arcs) s0 s1 f0 f1
  have hl := g.len
  refine Ev.congr (fun q => by rw [net_Back.f]) ?_
  refine Ev.bind he ?_
  refine Ev.pos (hi.2 g) ?_
  refine Ev.bindc (a := arcs) (by unfold api_Arc.f; rw [if_pos (by omega)]) ?_
  exact back_l0 (by omega) arcs.length 0 arcs (by omega) rfl
theorem back_any {n k st f : Int} {arcs : List S27} (s0 : 0 ≤ st) (s1 : st < 4294967296) (f0 : 0 ≤ f) (f1 : f < 4294967296) : ∃ r, Ev (fun q => net_Back.f q n k arcs st f) r := by
  by_cases g : GoodN n k arcs st f
  · exact ⟨_, back_good g s0 s1 f0 f1⟩
  · obtain ⟨e, he, hi⟩ := netcheck_spec (n := n) (k := k) (arcs := arcs) s0 s1 f0 f1
    refine ⟨(0, 0, [], 0, 0, e), Ev.congr (fun q => by rw [net_Back.f]) ?_⟩
    refine Ev.bind he ?_
    exact Ev.neg (fun h => g (hi.1 h)) (Ev.now _)
theorem same_l1 {n k st f : Int} {arcs : List S27} (hl : arcs.length ≤ 1000) : ∀ (d i : Nat), i + d = arcs.length → Ev (fun q => coppicerkeep_NetBack.l1 q arcs (arcs.length : Int) (i : Int) n k arcs st f n k arcs st f) true := by
  intro d
  induction d with
  | zero =>
    intro i hi
    refine Ev.step (fun q => by rw [coppicerkeep_NetBack.l1]) ?_
    refine Ev.neg (by omega) ?_
    refine Ev.pos rfl ?_
    refine Ev.pos rfl ?_
    refine Ev.pos rfl (Ev.val ?_)
    simp
  | succ d ih =>
    intro i hi
    refine Ev.step (fun q => by rw [coppicerkeep_NetBack.l1]) ?_
    refine Ev.pos (by omega) ?_
    refine Ev.pos (by omega) ?_
    refine Ev.pos (by omega) ?_
    refine Ev.pos (by omega) ?_
    refine Ev.neg (by simp) ?_
    rw [w64 (n := (i : Int) + 1) (by omega) (by omega)]
    exact ih (i + 1) (by omega)
theorem NetBack : coppicerkeep_NetBack.Pure := by
  intro n k arcs st f w _ _ wa wst wf ww
  obtain ⟨s0, s1⟩ := wf_u32 wst
  obtain ⟨f0, f1⟩ := wf_u32 wf
  have s1' : st < 4294967296 := by omega
  have f1' : f < 4294967296 := by omega
  obtain ⟨b, hb, hbi⟩ := netted_spec (n := n) (k := k) (arcs := arcs) (st := st) (f := f) w
  refine Ev.rounds ?_
  refine Ev.congr (fun q => by rw [coppicerkeep_NetBack.f]) ?_
  by_cases g : GoodN n k arcs st f ∧ GoodW k w
  · obtain ⟨gn, gw⟩ := g
    have hr := net_run_good gn s0 s1' f0 f1' w gw
    refine Ev.bind (back_good gn s0 s1' f0 f1') ?_
    refine Ev.bind hr ?_
    refine Ev.bind hb ?_
    refine Ev.pos (hbi.2 ⟨gn, gw⟩) ?_
    have hwl := gw.1
    rw [w64 (n := (w.length : Int) - 1) (by omega) (by omega)]
    have gb := goodN_back gn
    have loop : ∀ (d : Nat) (acc : List Int), d ≤ w.length → acc = (w.drop d).reverse →
        Ev (fun q => coppicerkeep_NetBack.l0 q w 0 (decide (¬ (setN arcs st w &&& f.toNat) = 0)) 0 acc ((d : Int) - 1) n k arcs st f n k (arcs.map turnA) f st) true := by
      intro d
      induction d with
      | zero =>
        intro acc hd ha
        rw [List.drop_zero] at ha
        refine Ev.step (fun q => by rw [coppicerkeep_NetBack.l0]) ?_
        refine Ev.neg (by omega) ?_
        have gw2 : GoodW k acc := ⟨by rw [ha, List.length_reverse]; exact hwl, fun s hs => gw.2 s (by rw [ha] at hs; exact List.mem_reverse.1 hs)⟩
        have hr2 := net_run_good gb f0 f1' s0 s1' acc gw2
        refine Ev.bind hr2 ?_
        refine Ev.bind (back_good gb f0 f1' s0 s1') ?_
        refine Ev.pos rfl ?_
        refine Ev.pos rfl ?_
        refine Ev.pos rfl ?_
        refine Ev.pos rfl ?_
        have e := takes_back gn s0 f0 gw.2
        rw [← ha] at e
        refine Ev.neg (by rw [e]; simp) ?_
        rw [turn_turn]
        refine Ev.step (fun q => by rw [coppicerkeep_NetBack.j1]) ?_
        refine Ev.neg (by simp) ?_
        exact same_l1 (by have := gn.len; omega) arcs.length 0 (by omega)
      | succ d ih =>
        intro acc hd ha
        have hlt : d < w.length := by omega
        have hal : acc.length ≤ 12 := by rw [ha, List.length_reverse, List.length_drop]; omega
        refine Ev.step (fun q => by rw [coppicerkeep_NetBack.l0]) ?_
        rw [show ((d + 1 : Nat) : Int) - 1 = (d : Int) by omega]
        refine Ev.pos (by omega) ?_
        refine Ev.pos (by omega) ?_
        refine Ev.pos (by omega) ?_
        refine Ev.pos (by omega) ?_
        rw [rd_nat, w64 (n := (d : Int) - 1) (by omega) (by omega)]
        refine ih _ (by omega) ?_
        rw [drop_cons hlt 0, List.reverse_cons, ha]
    exact loop w.length [] (Nat.le_refl _) (by rw [List.drop_length]; rfl)
  · obtain ⟨e, he0, he⟩ := net_run_bad s0 s1' f0 f1' w g
    obtain ⟨r, hr⟩ := back_any (n := n) (k := k) (arcs := arcs) s0 s1' f0 f1'
    refine Ev.bind hr ?_
    refine Ev.bind he ?_
    refine Ev.bind hb ?_
    refine Ev.neg (fun h => g (hbi.1 h)) (Ev.val ?_)
    simpa using he0
end Go.Proofs.Ytiiankjmeodjdaa.Pure
