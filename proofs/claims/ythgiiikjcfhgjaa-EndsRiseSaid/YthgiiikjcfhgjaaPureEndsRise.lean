/- EndsRise, the part over lists: the ends of a word rise, and what neighbours have in common is told. Conditions: none. -/
import Derived.Test.YthgiiikjcfhgjaaPREnds
import Derived.Test.YthgiiikjcfhgjaaGR8
namespace Go.Proofs.Ythgiiikjcfhgjaa.PRM
set_option linter.unusedVariables false
set_option linter.unusedSimpArgs false
open Go.RowKit Go.Proofs.Ythgiiikjcfhgjaa.GR Go.Proofs.YthgiiikjcfhgjaaW.PrintWords Go.Proofs.YthgiiikjcfhgjaaW.PrintLast Go.Proofs.YthgiiikjcfhgjaaW.PrintMore

theorem dropc {α : Type} {l : List α} {i : Nat} (h : i < l.length) (d : α) : l.drop i = l.getD i d :: l.drop (i + 1) := by
  rw [List.drop_eq_getElem_cons h, List.getD_eq_getElem?_getD, List.getElem?_eq_getElem h, Option.getD_some]
theorem less_loop (a b : List Int) (ha : a.length ≤ 60) (hb : b.length ≤ 60) : ∀ (d i : Nat), i + d = a.length + b.length + 1 → i ≤ a.length → Ev (fun q => coppicerref_Less.l0 q a b (i : Int)) (lexL (a.drop i) (b.drop i)) := by
  intro d
  induction d with
  | zero => intro i hi h2; omega
  | succ d ih =>
    intro i hi hia
    refine Ev.step (fun q => by rw [coppicerref_Less.l0]) ?_
    have fin : ∀ {x : Bool}, ¬ (i < a.length ∧ i < b.length) → x = decide ((a.length : Int) < (b.length : Int)) → Ev (fun q => coppicerref_Less.j1 q a b (i : Int) false) x := by
      intro x _ hx
      refine Ev.step (fun q => by rw [coppicerref_Less.j1]) ?_
      refine Ev.neg (by simp) ?_
      rw [hx]
      exact Ev.now _
    by_cases h1 : i < a.length
    · refine Ev.pos (by omega) ?_
      by_cases h2 : i < b.length
      · rw [decide_eq_true (show (i : Int) < (b.length : Int) by omega)]
        refine Ev.step (fun q => by rw [coppicerref_Less.j1]) ?_
        refine Ev.pos rfl ?_
        refine Ev.pos (by omega) ?_
        refine Ev.pos (by omega) ?_
        refine Ev.pos (by omega) ?_
        rw [dropc h1 0, dropc h2 0, rd_nat, rd_nat]
        by_cases e : a.getD i 0 = b.getD i 0
        · refine Ev.pos e ?_
          rw [e, lexL_cons, wadd1 i (by omega)]
          exact ih (i + 1) (by omega) (by omega)
        · refine Ev.neg e ?_
          refine Ev.eq (Ev.now _) ?_
          rw [lexL, beq_eq_false_iff_ne.2 e, Bool.false_and, Bool.or_false]
      · rw [decide_eq_false (show ¬ (i : Int) < (b.length : Int) by omega)]
        refine fin (by omega) ?_
        rw [show b.drop i = [] from List.drop_eq_nil_of_le (by omega), lexL_nil, eq_comm, decide_eq_false_iff_not]
        omega
    · refine Ev.neg (by omega) ?_
      refine fin (by omega) ?_
      rw [show a.drop i = [] from List.drop_eq_nil_of_le (by omega)]
      by_cases h2 : i < b.length
      · rw [dropc h2 0, decide_eq_true (by omega)]; rfl
      · rw [show b.drop i = [] from List.drop_eq_nil_of_le (by omega), decide_eq_false (by omega)]; rfl
theorem less_spec (a b : List Int) (ha : a.length ≤ 60) (hb : b.length ≤ 60) : Ev (fun q => coppicerref_Less.f q a b) (lexL a b) := by
  have := less_loop a b ha hb (a.length + b.length + 1) 0 (by omega) (by omega)
  rw [List.drop_zero, List.drop_zero] at this
  exact Ev.congr (fun q => by rw [coppicerref_Less.f]; rfl) this
theorem alike_loop (a b : List Int) (ha : a.length ≤ 60) (hb : b.length ≤ 60) : ∀ (d i : Nat), i + d = lcpL a b → Ev (fun q => coppicerref_Alike.l0 q a b (i : Int)) (lcpL a b : Int) := by
  have hla := lcp_le_left a b
  have hlb := lcp_le_left b a
  rw [lcp_comm b a] at hlb
  intro d
  induction d with
  | zero =>
    intro i hi
    have stop := lcp_step a b i (by omega)
    refine Ev.step (fun q => by rw [coppicerref_Alike.l0]) ?_
    have hii : (i : Int) = (lcpL a b : Int) := by omega
    by_cases h1 : i < a.length
    · refine Ev.pos (by omega) ?_
      by_cases h2 : i < b.length
      · refine Ev.pos (by omega) ?_
        refine Ev.pos (by omega) ?_
        refine Ev.neg (by rw [rd_nat, rd_nat]; intro e; have := stop.2 ⟨h1, h2, e⟩; omega) ?_
        exact Ev.eq (Ev.now _) hii
      · refine Ev.neg (by omega) ?_
        exact Ev.eq (Ev.now _) hii
    · refine Ev.neg (by omega) ?_
      exact Ev.eq (Ev.now _) hii
  | succ d ih =>
    intro i hi
    have stop := (lcp_step a b i (by omega)).1 (by omega)
    refine Ev.step (fun q => by rw [coppicerref_Alike.l0, wadd1 i (by omega)]) ?_
    refine Ev.pos (by omega) ?_
    refine Ev.pos (by omega) ?_
    refine Ev.pos (by omega) ?_
    refine Ev.pos (by rw [rd_nat, rd_nat]; exact stop.2.2) ?_
    exact ih (i + 1) (by omega)
theorem alike_spec (a b : List Int) (ha : a.length ≤ 60) (hb : b.length ≤ 60) : Ev (fun q => coppicerref_Alike.f q a b) (lcpL a b : Int) :=
  Ev.congr (fun q => by rw [coppicerref_Alike.f]; rfl) (alike_loop a b ha hb (lcpL a b) 0 (by omega))
theorem long_spec (w : List Int) : Ev (fun q => coppicerkeep_long.f q [w]) (decide ((w.length : Int) > 60)) := by
  refine Ev.congr (fun q => by rw [coppicerkeep_long.f]) ?_
  refine Ev.step (fun q => by rw [coppicerkeep_long.l0]) ?_
  refine Ev.pos (by simp) ?_
  refine Ev.pos (by decide) ?_
  refine Ev.pos (by simp) ?_
  have e : rd_L2 [w] 0 = w := rfl
  rw [e]
  by_cases h : (w.length : Int) > 60
  · rw [decide_eq_true h]
    refine Ev.pos h ?_
    exact Ev.now _
  · rw [decide_eq_false h]
    refine Ev.neg h ?_
    refine Ev.step (fun q => by rw [coppicerkeep_long.l0]) ?_
    refine Ev.neg (by rw [show wrap64 (0 + 1) = 1 by rw [w64 (by decide) (by decide)]; rfl]; simp) ?_
    exact Ev.now _
theorem rise_loop {w l c : List Int} (hO : OrdL w l) (hn : w.length ≤ 60) (hcl : c.length = w.length - 1) (hc : ∀ r, 0 < r → r < w.length → c.getD (r - 1) 0 = (comL w l r : Int)) : ∀ (d k : Nat), k + 1 + d = w.length + 1 → Ev (fun q => coppicerkeep_EndsRise.l0 q w l c ((k + 1 : Nat) : Int)) true := by
  intro d
  induction d with
  | zero =>
    intro k hk
    refine Ev.step (fun q => by rw [coppicerkeep_EndsRise.l0]) ?_
    refine Ev.neg (by rw [hO.len]; omega) ?_
    exact Ev.now _
  | succ d ih =>
    intro k hk
    have hk1 : k + 1 < w.length ∨ k + 1 = w.length := by omega
    rcases hk1 with hk1 | hk1
    · obtain ⟨j, ej⟩ := Int.eq_ofNat_of_zero_le (hO.inr k (by omega)).1
      obtain ⟨i, ei⟩ := Int.eq_ofNat_of_zero_le (hO.inr (k + 1) hk1).1
      have hj := (hO.inr k (by omega)).2
      have hi := (hO.inr (k + 1) hk1).2
      rw [ej] at hj
      rw [ei] at hi
      have hasc := hO.asc k (k + 1) (by omega) hk1
      rw [ej, ei, Int.toNat_natCast, Int.toNat_natCast] at hasc
      have hcom := hc (k + 1) (by omega) hk1
      unfold comL at hcom
      rw [Nat.add_sub_cancel, ej, ei, Int.toNat_natCast, Int.toNat_natCast, lcp_comm] at hcom
      have hless := less_spec (w.drop j) (w.drop i) (by rw [List.length_drop]; omega) (by rw [List.length_drop]; omega)
      rw [hasc] at hless
      have hal := alike_spec (w.drop j) (w.drop i) (by rw [List.length_drop]; omega) (by rw [List.length_drop]; omega)
      have nxt : Ev (fun q => coppicerkeep_EndsRise.j2 q w l c ((k + 1 : Nat) : Int) false) true := by
        refine Ev.step (fun q => by rw [coppicerkeep_EndsRise.j2, wadd1 (k + 1) (by omega)]) ?_
        refine Ev.neg (by simp) ?_
        exact ih (k + 1) (by omega)
      refine Ev.step (fun q => by rw [coppicerkeep_EndsRise.l0, wsub1 (k + 1) (by omega) (by omega), Nat.add_sub_cancel, rd_nat, rd_nat, rd_nat, ej, ei, hcom, Int.toNat_natCast, Int.toNat_natCast]) ?_
      refine Ev.pos (by rw [hO.len]; omega) ?_
      refine Ev.pos (by omega) ?_
      refine Ev.neg (by omega) ?_
      refine Ev.neg (by omega) ?_
      refine Ev.pos (by omega) ?_
      refine Ev.pos (by rw [hO.len]; omega) ?_
      refine Ev.neg (by omega) ?_
      refine Ev.neg (by omega) ?_
      refine Ev.pos (by omega) ?_
      refine Ev.pos (by omega) ?_
      refine Ev.pos (by omega) ?_
      refine Ev.pos (by omega) ?_
      refine Ev.bind hless ?_
      refine Ev.pos rfl ?_
      refine Ev.bind hal ?_
      refine Ev.pos (by rw [hcl]; omega) ?_
      rw [show ((lcpL (w.drop j) (w.drop i) : Int) != (lcpL (w.drop j) (w.drop i) : Int)) = false by simp]
      exact nxt
    · refine Ev.step (fun q => by rw [coppicerkeep_EndsRise.l0]) ?_
      refine Ev.neg (by rw [hO.len]; omega) ?_
      exact Ev.now _
end Go.Proofs.Ythgiiikjcfhgjaa.PRM
namespace Go.Proofs.Ythgiiikjcfhgjaa.Pure
open Go.RowKit Go.Proofs.Ythgiiikjcfhgjaa.GR Go.Proofs.YthgiiikjcfhgjaaW.PrintWords Go.Proofs.YthgiiikjcfhgjaaW.PrintLast Go.Proofs.Ythgiiikjcfhgjaa.PRM

theorem EndsRise : coppicerkeep_EndsRise.Pure := by
  intro w hw
  refine Ev.rounds ?_
  have hb : BytesL w := fun x hx => wf_u8 (hw.2.2 x hx)
  have hlong := long_spec w
  by_cases h : (w.length : Int) > 60
  · rw [decide_eq_true h] at hlong
    have h1 : ends_Order.f w = some ([], 1) := by rw [ends_Order.f, if_pos h]
    have h2 : Ev (fun q => ends_Common.f q w) ([], 1) := by
      refine Ev.congr (fun q => by rw [ends_Common.f]) ?_
      exact Ev.pos h (Ev.now _)
    refine Ev.congr (fun q => by rw [coppicerkeep_EndsRise.f]) ?_
    refine Ev.bindc h1 ?_
    refine Ev.bind h2 ?_
    refine Ev.bind hlong ?_
    refine Ev.pos rfl ?_
    refine Ev.neg (by decide) ?_
    exact Ev.now _
  · rw [decide_eq_false h] at hlong
    have hn : w.length ≤ 60 := by omega
    have hO := fin_ord hb
    have hf : ends_order.f w = some ((ends_order.fin w).map fun i => ((i.val : Nat) : Int)) := by
      unfold ends_order.f
      rw [if_pos (by omega)]
    generalize (ends_order.fin w).map (fun i => ((i.val : Nat) : Int)) = l at hO hf
    obtain ⟨c, hC, hcl, hc⟩ := common_spec hO hn
    have h1 : ends_Order.f w = some (l, 0) := by rw [ends_Order.f, if_neg h, hf]; rfl
    have h2 : Ev (fun q => ends_Common.f q w) (c, 0) := by
      refine Ev.congr (fun q => by rw [ends_Common.f]) ?_
      refine Ev.neg h ?_
      refine Ev.bindc hf ?_
      refine Ev.bind hC ?_
      exact Ev.now _
    have fin : Ev (fun q => coppicerkeep_EndsRise.j0 q w l c false) true := by
      refine Ev.step (fun q => by rw [coppicerkeep_EndsRise.j0]) ?_
      refine Ev.neg (c := false = true) (by simp) ?_
      exact rise_loop hO hn hcl hc w.length 0 (by omega)
    refine Ev.congr (fun q => by rw [coppicerkeep_EndsRise.f]) ?_
    refine Ev.bindc h1 ?_
    refine Ev.bind h2 ?_
    refine Ev.bind hlong ?_
    refine Ev.neg (by simp) ?_
    refine Ev.pos rfl ?_
    refine Ev.pos rfl ?_
    refine Ev.pos (by show (l.length : Int) = (w.length : Int); rw [hO.len]) ?_
    by_cases h0 : (w.length : Int) > 0
    · refine Ev.pos h0 ?_
      rw [show ((c.length : Int) != wrap64 ((w.length : Int) - 1)) = false by rw [wsub1 _ (by omega) (by omega), bne_eq_false_iff_eq]; omega]
      exact fin
    · refine Ev.neg h0 ?_
      exact fin
end Go.Proofs.Ythgiiikjcfhgjaa.Pure
