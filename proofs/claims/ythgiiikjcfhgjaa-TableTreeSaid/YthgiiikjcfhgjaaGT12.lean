-- Written by ext.py, a program of this session.
import Derived.Test.YthgiiikjcfhgjaaGT0
import Derived.Test.YthgiiikjcfhgjaaGT5
import Derived.Test.YthgiiikjcfhgjaaGT8
import Derived.Test.YthgiiikjcfhgjaaGT11
namespace Go.Proofs.Ythgiiikjcfhgjaa.GT
open Go.RowKit Go.Proofs.YthgiiikjcfhgjaaW.PrintWords Go.Proofs.YthgiiikjcfhgjaaW.PrintLast Go.Proofs.YthgiiikjcfhgjaaW.PrintMore
attribute [local go_sem] max2_int min2_int max_two min_two max_three min_three max_four min_four cellIs_set   -- for this text's walks alone
set_option linter.unusedVariables false
set_option linter.unusedSimpArgs false

/-! ### coppicerkeep_TableTree: function 9 -/
def coppicerkeep_TableTree.j0 : Nat → Bool → Option (Bool)
  | 0, _ => none
  | k + 1, x4 => some x4
def coppicerkeep_TableTree.f (k : Nat) (a0_0 : Int) (a0_1 : Int) (a0_2 : Int) (l0_3 : List (S126)) (l1 : List Int) : Option (Bool) := (table_Trees.f k a0_0 a0_1 a0_2 l0_3 l1).bind fun bt172 => ((table_Takes.f k a0_0 a0_1 a0_2 l0_3 l1).bind fun bt174 => ((coppicerkeep_grown.f k a0_0 a0_1 a0_2 l0_3 l1).bind fun t176 => (if t176 = true then (if bt174.2 = 0 then (if bt172.2 = 0 then ((coppicerref_Proper.f k a0_0 a0_1 a0_2 l0_3).bind fun t178 => (if t178 = true then (some ((decide (bt172.1 > 0)) == bt174.1)) else (some false))) else (if bt172.1 = 0 then ((coppicerref_Proper.f k a0_0 a0_1 a0_2 l0_3).bind fun t177 => (if ((bt172.2 == 3) == (!t177)) = true then (if bt172.2 = 1 then (coppicerkeep_TableTree.j0 k bt174.1) else (coppicerkeep_TableTree.j0 k true)) else (coppicerkeep_TableTree.j0 k false))) else (coppicerkeep_TableTree.j0 k false))) else (some false)) else (if bt172.2 = 0 then (some false) else (some (bt174.2 != 0))))))
theorem coppicerkeep_TableTree.mono_l : ∀ k, (∀ y0, LeO (coppicerkeep_TableTree.j0 k y0) (coppicerkeep_TableTree.j0 (k + 1) y0))
  | 0 => fun _ r h => by simp [coppicerkeep_TableTree.j0] at h
  | k + 1 => by
    have ih0 := coppicerkeep_TableTree.mono_l k
    · intro y0
      unfold coppicerkeep_TableTree.j0
      repeat' first
      | (with_reducible exact ih0 _)
      | (with_reducible exact coppicerkeep_grown.mono _ _ _ _ _ _)
      | (with_reducible exact coppicerref_Proper.mono _ _ _ _ _)
      | (with_reducible exact table_Takes.mono _ _ _ _ _ _)
      | (with_reducible exact table_Trees.mono _ _ _ _ _ _)
      | (with_reducible exact LeO.refl _)
      | (with_reducible exact LeO.none _)
      | (with_reducible refine LeO.ite ?_ ?_)
      | (with_reducible refine LeO.bind ?_ (fun _ => ?_))
      | exact ih0 _
      | exact coppicerkeep_grown.mono _ _ _ _ _ _
      | exact coppicerref_Proper.mono _ _ _ _ _
      | exact table_Takes.mono _ _ _ _ _ _
      | exact table_Trees.mono _ _ _ _ _ _
      | exact LeO.none _
      | refine LeO.ite ?_ ?_
      | refine LeO.bind ?_ (fun _ => ?_)
theorem coppicerkeep_TableTree.mono : ∀ a0 a1 a2 a3 a4 k, LeO (coppicerkeep_TableTree.f k a0 a1 a2 a3 a4) (coppicerkeep_TableTree.f (k + 1) a0 a1 a2 a3 a4) := by
  intro a0 a1 a2 a3 a4 k
  have ih0 := coppicerkeep_TableTree.mono_l k
  unfold coppicerkeep_TableTree.f
  repeat' first
      | (with_reducible exact ih0 _)
      | (with_reducible exact coppicerkeep_grown.mono _ _ _ _ _ _)
      | (with_reducible exact coppicerref_Proper.mono _ _ _ _ _)
      | (with_reducible exact table_Takes.mono _ _ _ _ _ _)
      | (with_reducible exact table_Trees.mono _ _ _ _ _ _)
      | (with_reducible exact LeO.refl _)
      | (with_reducible exact LeO.none _)
      | (with_reducible refine LeO.ite ?_ ?_)
      | (with_reducible refine LeO.bind ?_ (fun _ => ?_))
      | exact ih0 _
      | exact coppicerkeep_grown.mono _ _ _ _ _ _
      | exact coppicerref_Proper.mono _ _ _ _ _
      | exact table_Takes.mono _ _ _ _ _ _
      | exact table_Trees.mono _ _ _ _ _ _
      | exact LeO.none _
      | refine LeO.ite ?_ ?_
      | refine LeO.bind ?_ (fun _ => ?_)
set_option maxHeartbeats 8000000 in
set_option maxRecDepth 100000 in
theorem coppicerkeep_TableTree.calls (k : Nat) (a0_0 : Int) (a0_1 : Int) (a0_2 : Int) (A0_3 : Option Addr) (c0_3 : Nat) (l0_3 : List (S126)) (A1 : Option Addr) (c1 : Nat) (l1 : List Int) (r : Bool) (w : World) (hr0_3 : Kd.C k126 w A0_3 l0_3.length l0_3) (hc0_3 : l0_3.length ≤ c0_3) (hr1 : Kd.C (Kd.int .i64) w A1 l1.length l1) (hc1 : l1.length ≤ c1) (h : coppicerkeep_TableTree.f k a0_0 a0_1 a0_2 l0_3 l1 = some r) :
    Calls Try.prog 9 #[.agg #[.int .i64 a0_0, .int .i64 a0_1, .int .i64 a0_2, .slice A0_3 l0_3.length c0_3], .slice A1 l1.length c1] w fun e w' => e = .returned (.bool r) ∧ Below w.heap.size w w' := by
  have hu51 := Try.underlying51
  have HR0_3 := Aside0.mk hr0_3
  have HC0_3 := Aside0.mk hc0_3
  clear hr0_3 hc0_3
  have HR1 := Aside0.mk hr1
  have HC1 := Aside0.mk hc1
  clear hr1 hc1
  have HB := Aside0.mk (Below.refl w.heap.size w)
  have H : ((table_Trees.f k a0_0 a0_1 a0_2 l0_3 l1).bind fun bt172 => ((table_Takes.f k a0_0 a0_1 a0_2 l0_3 l1).bind fun bt174 => ((coppicerkeep_grown.f k a0_0 a0_1 a0_2 l0_3 l1).bind fun t176 => (if t176 = true then (if bt174.2 = 0 then (if bt172.2 = 0 then ((coppicerref_Proper.f k a0_0 a0_1 a0_2 l0_3).bind fun t178 => (if t178 = true then (some ((decide (bt172.1 > 0)) == bt174.1)) else (some false))) else (if bt172.1 = 0 then ((coppicerref_Proper.f k a0_0 a0_1 a0_2 l0_3).bind fun t177 => (if ((bt172.2 == 3) == (!t177)) = true then (if bt172.2 = 1 then (coppicerkeep_TableTree.j0 k bt174.1) else (coppicerkeep_TableTree.j0 k true)) else (coppicerkeep_TableTree.j0 k false))) else (coppicerkeep_TableTree.j0 k false))) else (some false)) else (if bt172.2 = 0 then (some false) else (some (bt174.2 != 0))))))) = some r := h
  clear h
  replace H := Option.bind_eq_some_iff.mp H
  obtain ⟨⟨t172, t173⟩, A30, H⟩ := H
  replace H : ((table_Takes.f k a0_0 a0_1 a0_2 l0_3 l1).bind fun bt174 => ((coppicerkeep_grown.f k a0_0 a0_1 a0_2 l0_3 l1).bind fun t176 => (if t176 = true then (if bt174.2 = 0 then (if t173 = 0 then ((coppicerref_Proper.f k a0_0 a0_1 a0_2 l0_3).bind fun t178 => (if t178 = true then (some ((decide (t172 > 0)) == bt174.1)) else (some false))) else (if t172 = 0 then ((coppicerref_Proper.f k a0_0 a0_1 a0_2 l0_3).bind fun t177 => (if ((t173 == 3) == (!t177)) = true then (if t173 = 1 then (coppicerkeep_TableTree.j0 k bt174.1) else (coppicerkeep_TableTree.j0 k true)) else (coppicerkeep_TableTree.j0 k false))) else (coppicerkeep_TableTree.j0 k false))) else (some false)) else (if t173 = 0 then (some false) else (some (bt174.2 != 0)))))) = some r := H
  have A3 := Aside0.mk A30
  clear A30
  replace H := Option.bind_eq_some_iff.mp H
  obtain ⟨⟨t174, t175⟩, A40, H⟩ := H
  replace H : ((coppicerkeep_grown.f k a0_0 a0_1 a0_2 l0_3 l1).bind fun t176 => (if t176 = true then (if t175 = 0 then (if t173 = 0 then ((coppicerref_Proper.f k a0_0 a0_1 a0_2 l0_3).bind fun t178 => (if t178 = true then (some ((decide (t172 > 0)) == t174)) else (some false))) else (if t172 = 0 then ((coppicerref_Proper.f k a0_0 a0_1 a0_2 l0_3).bind fun t177 => (if ((t173 == 3) == (!t177)) = true then (if t173 = 1 then (coppicerkeep_TableTree.j0 k t174) else (coppicerkeep_TableTree.j0 k true)) else (coppicerkeep_TableTree.j0 k false))) else (coppicerkeep_TableTree.j0 k false))) else (some false)) else (if t173 = 0 then (some false) else (some (t175 != 0))))) = some r := H
  have A4 := Aside0.mk A40
  clear A40
  replace H := Option.bind_eq_some_iff.mp H
  obtain ⟨t176, A50, H⟩ := H
  replace H : (if t176 = true then (if t175 = 0 then (if t173 = 0 then ((coppicerref_Proper.f k a0_0 a0_1 a0_2 l0_3).bind fun t178 => (if t178 = true then (some ((decide (t172 > 0)) == t174)) else (some false))) else (if t172 = 0 then ((coppicerref_Proper.f k a0_0 a0_1 a0_2 l0_3).bind fun t177 => (if ((t173 == 3) == (!t177)) = true then (if t173 = 1 then (coppicerkeep_TableTree.j0 k t174) else (coppicerkeep_TableTree.j0 k true)) else (coppicerkeep_TableTree.j0 k false))) else (coppicerkeep_TableTree.j0 k false))) else (some false)) else (if t173 = 0 then (some false) else (some (t175 != 0)))) = some r := H
  have A5 := Aside0.mk A50
  clear A50
  by_cases c6 : t176 = true
  · subst c6
    have H1 : (if t175 = 0 then (if t173 = 0 then ((coppicerref_Proper.f k a0_0 a0_1 a0_2 l0_3).bind fun t178 => (if t178 = true then (some ((decide (t172 > 0)) == t174)) else (some false))) else (if t172 = 0 then ((coppicerref_Proper.f k a0_0 a0_1 a0_2 l0_3).bind fun t177 => (if ((t173 == 3) == (!t177)) = true then (if t173 = 1 then (coppicerkeep_TableTree.j0 k t174) else (coppicerkeep_TableTree.j0 k true)) else (coppicerkeep_TableTree.j0 k false))) else (coppicerkeep_TableTree.j0 k false))) else (some false)) = some r := by rw [if_pos rfl] at H; exact H
    clear H
    have H := H1
    clear H1
    by_cases c7 : t175 = 0
    · rw [if_pos c7] at H
      have c7b0 : (t175 == 0) = true := beq_iff_eq.mpr c7
      have c7b1 : (t175 != 0) = false := bne_eq_false_iff_eq.mpr c7
      clear c7
      by_cases c8 : t173 = 0
      · rw [if_pos c8] at H
        have c8b0 : (t173 == 0) = true := beq_iff_eq.mpr c8
        have c8b1 : (t173 != 0) = false := bne_eq_false_iff_eq.mpr c8
        clear c8
        replace H := Option.bind_eq_some_iff.mp H
        obtain ⟨t178, A90, H⟩ := H
        replace H : (if t178 = true then (some ((decide (t172 > 0)) == t174)) else (some false)) = some r := H
        have A9 := Aside0.mk A90
        clear A90
        by_cases c10 : t178 = true
        · subst c10
          have H1 : (some ((decide (t172 > 0)) == t174)) = some r := by rw [if_pos rfl] at H; exact H
          clear H
          have H := H1
          clear H1
          obtain rfl := Option.some.inj H
          go_enter Try.func9, Try.ntmps9
          go_wp2_with (first | ((with_reducible refine gate_dst (N := 2) rfl ?_); refine box_event ?hg (N := 2) ?hd (cs := #[.int .i64 a0_0, .int .i64 a0_1, .int .i64 a0_2, .slice A0_3 l0_3.length c0_3]) (t := 51) ?hr ?_; (case hd => rfl); (case hg => rfl); (case hr => first | (go_simp; done) | (go_simp; rfl)); intro gb171 hg w11 hbox hb; have n0_ := Aside0.mk (below_step (by repeat (first | (with_reducible first | exact HB.out | apply below_alloc | apply pw_below_drewN | apply below_drew1) | exact HB.out)) hb); have n1_ := Aside0.mk (hbox); have n2_ := Aside0.mk ((by rw [hg]; exact (below_size (by repeat (first | (with_reducible first | exact HB.out | apply below_alloc | apply pw_below_drewN | apply below_drew1) | exact HB.out))) : w.heap.size ≤ gb171)); have n3_ := Aside0.mk ((by rw [hg]; exact (below_size (by repeat (first | (with_reducible first | exact HB.out | apply below_alloc | apply pw_below_drewN | apply below_drew1) | exact HB.out))) : w.heap.size ≤ gb171)); clear HB; have HB := n0_; have BK171 := n1_; have GW171 := n2_; have GE171 := n3_; clear n0_ n1_ n2_ n3_; clear hb hbox hg; have hcz12_0 : w11.cell? ⟨gb171, 0, none⟩ = some (.int .i64 a0_0) := (blk_cell BK171.out 0).trans rfl; have hcz12_1 : w11.cell? ⟨gb171, 1, none⟩ = some (.int .i64 a0_1) := (blk_cell BK171.out 1).trans rfl; have hcz12_2 : w11.cell? ⟨gb171, 2, none⟩ = some (.int .i64 a0_2) := (blk_cell BK171.out 2).trans rfl; have hcz12_3 : w11.cell? ⟨gb171, 3, none⟩ = some (.slice A0_3 l0_3.length c0_3) := (blk_cell BK171.out 3).trans rfl; have hfz12_0 := blk_frozen BK171.out 0; have hfz12_1 := blk_frozen BK171.out 1; have hfz12_2 := blk_frozen BK171.out 2; have hfz12_3 := blk_frozen BK171.out 3) | ((with_reducible refine gate_callee (f := 27) rfl ?_); refine goesL_ (some 12) rfl rfl Try.func27 (by kernel_rfl) rfl #[.agg #[.int .i64 a0_0, .int .i64 a0_1, .int .i64 a0_2, .slice A0_3 l0_3.length c0_3], .slice A1 l1.length c1] rfl (by (try simp only [List.map_toArray, List.map_cons, List.map_nil]); first | done | rfl | (simp only [List.length_drop, List.length_take]; rfl)) ?_; (with_reducible refine (table_Trees.calls k a0_0 a0_1 a0_2 _ _ l0_3 _ _ l1 t172 t173 _ ?side1 ?side2 ?side3 ?side4 A3.out).mono ?_); (case side1 => repeat (first | exact (Kd.C_below HR0_3.out HB.out) | (with_reducible refine Kd.C_alloc ?_ _) | (with_reducible refine Kd.C_drewN ?_ _) | (with_reducible refine Kd.C_drew ?_))); (case side2 => exact HC0_3.out); (case side3 => repeat (first | exact (Kd.C_below HR1.out HB.out) | (with_reducible refine Kd.C_alloc ?_ _) | (with_reducible refine Kd.C_drewN ?_ _) | (with_reducible refine Kd.C_drew ?_))); (case side4 => exact HC1.out); rintro e w13 ⟨rfl, hb⟩; refine ⟨_, rfl, ?_⟩; have n0_ := Aside0.mk (blk_below (g := gb171) (o := .cells #[.int .i64 a0_0, .int .i64 a0_1, .int .i64 a0_2, .slice A0_3 l0_3.length c0_3] 51 (0, 0)) (by (with_reducible repeat (first | refine blk_drewN ?_ _ | refine blk_drew ?_ | refine blk_alloc ?_ _)); exact BK171.out) hb); have n1_ := Aside0.mk (below_step (by repeat (first | (with_reducible first | exact HB.out | apply below_alloc | apply pw_below_drewN | apply below_drew1 | refine below_set ?_ GE171.out) | exact HB.out)) hb); clear BK171; clear HB; have BK171 := n0_; have HB := n1_; clear n0_ n1_; (try clear hb); (try clear hb2); (try clear hk); (try clear hi); have hcz14_0 : w13.cell? ⟨gb171, 0, none⟩ = some (.int .i64 a0_0) := (blk_cell BK171.out 0).trans rfl; have hcz14_1 : w13.cell? ⟨gb171, 1, none⟩ = some (.int .i64 a0_1) := (blk_cell BK171.out 1).trans rfl; have hcz14_2 : w13.cell? ⟨gb171, 2, none⟩ = some (.int .i64 a0_2) := (blk_cell BK171.out 2).trans rfl; have hcz14_3 : w13.cell? ⟨gb171, 3, none⟩ = some (.slice A0_3 l0_3.length c0_3) := (blk_cell BK171.out 3).trans rfl; have hfz14_0 := blk_frozen BK171.out 0; have hfz14_1 := blk_frozen BK171.out 1; have hfz14_2 := blk_frozen BK171.out 2; have hfz14_3 := blk_frozen BK171.out 3) | ((with_reducible refine gate_callee (f := 28) rfl ?_); refine goesL_ (some 18) rfl rfl Try.func28 (by kernel_rfl) rfl #[.agg #[.int .i64 a0_0, .int .i64 a0_1, .int .i64 a0_2, .slice A0_3 l0_3.length c0_3], .slice A1 l1.length c1] rfl (by (try simp only [List.map_toArray, List.map_cons, List.map_nil]); first | done | rfl | (simp only [List.length_drop, List.length_take]; rfl)) ?_; (with_reducible refine (table_Takes.calls k a0_0 a0_1 a0_2 _ _ l0_3 _ _ l1 t174 t175 _ ?side1 ?side2 ?side3 ?side4 A4.out).mono ?_); (case side1 => repeat (first | exact (Kd.C_below HR0_3.out HB.out) | (with_reducible refine Kd.C_alloc ?_ _) | (with_reducible refine Kd.C_drewN ?_ _) | (with_reducible refine Kd.C_drew ?_))); (case side2 => exact HC0_3.out); (case side3 => repeat (first | exact (Kd.C_below HR1.out HB.out) | (with_reducible refine Kd.C_alloc ?_ _) | (with_reducible refine Kd.C_drewN ?_ _) | (with_reducible refine Kd.C_drew ?_))); (case side4 => exact HC1.out); rintro e w15 ⟨rfl, hb⟩; refine ⟨_, rfl, ?_⟩; have n0_ := Aside0.mk (blk_below (g := gb171) (o := .cells #[.int .i64 a0_0, .int .i64 a0_1, .int .i64 a0_2, .slice A0_3 l0_3.length c0_3] 51 (0, 0)) (by (with_reducible repeat (first | refine blk_drewN ?_ _ | refine blk_drew ?_ | refine blk_alloc ?_ _)); exact BK171.out) hb); have n1_ := Aside0.mk (below_step (by repeat (first | (with_reducible first | exact HB.out | apply below_alloc | apply pw_below_drewN | apply below_drew1 | refine below_set ?_ GE171.out) | exact HB.out)) hb); clear BK171; clear HB; have BK171 := n0_; have HB := n1_; clear n0_ n1_; (try clear hb); (try clear hb2); (try clear hk); (try clear hi); have hcz16_0 : w15.cell? ⟨gb171, 0, none⟩ = some (.int .i64 a0_0) := (blk_cell BK171.out 0).trans rfl; have hcz16_1 : w15.cell? ⟨gb171, 1, none⟩ = some (.int .i64 a0_1) := (blk_cell BK171.out 1).trans rfl; have hcz16_2 : w15.cell? ⟨gb171, 2, none⟩ = some (.int .i64 a0_2) := (blk_cell BK171.out 2).trans rfl; have hcz16_3 : w15.cell? ⟨gb171, 3, none⟩ = some (.slice A0_3 l0_3.length c0_3) := (blk_cell BK171.out 3).trans rfl; have hfz16_0 := blk_frozen BK171.out 0; have hfz16_1 := blk_frozen BK171.out 1; have hfz16_2 := blk_frozen BK171.out 2; have hfz16_3 := blk_frozen BK171.out 3) | ((with_reducible refine gate_callee (f := 29) rfl ?_); refine goesL_ (some 23) rfl rfl Try.func29 (by kernel_rfl) rfl #[.agg #[.int .i64 a0_0, .int .i64 a0_1, .int .i64 a0_2, .slice A0_3 l0_3.length c0_3], .slice A1 l1.length c1] rfl (by (try simp only [List.map_toArray, List.map_cons, List.map_nil]); first | done | rfl | (simp only [List.length_drop, List.length_take]; rfl)) ?_; (with_reducible refine (coppicerkeep_grown.calls k a0_0 a0_1 a0_2 _ _ l0_3 _ _ l1 true _ ?side1 ?side2 ?side3 ?side4 A5.out).mono ?_); (case side1 => repeat (first | exact (Kd.C_below HR0_3.out HB.out) | (with_reducible refine Kd.C_alloc ?_ _) | (with_reducible refine Kd.C_drewN ?_ _) | (with_reducible refine Kd.C_drew ?_))); (case side2 => exact HC0_3.out); (case side3 => repeat (first | exact (Kd.C_below HR1.out HB.out) | (with_reducible refine Kd.C_alloc ?_ _) | (with_reducible refine Kd.C_drewN ?_ _) | (with_reducible refine Kd.C_drew ?_))); (case side4 => exact HC1.out); rintro e w17 ⟨rfl, hb⟩; refine ⟨_, rfl, ?_⟩; have n0_ := Aside0.mk (blk_below (g := gb171) (o := .cells #[.int .i64 a0_0, .int .i64 a0_1, .int .i64 a0_2, .slice A0_3 l0_3.length c0_3] 51 (0, 0)) (by (with_reducible repeat (first | refine blk_drewN ?_ _ | refine blk_drew ?_ | refine blk_alloc ?_ _)); exact BK171.out) hb); have n1_ := Aside0.mk (below_step (by repeat (first | (with_reducible first | exact HB.out | apply below_alloc | apply pw_below_drewN | apply below_drew1 | refine below_set ?_ GE171.out) | exact HB.out)) hb); clear BK171; clear HB; have BK171 := n0_; have HB := n1_; clear n0_ n1_; (try clear hb); (try clear hb2); (try clear hk); (try clear hi); have hcz18_0 : w17.cell? ⟨gb171, 0, none⟩ = some (.int .i64 a0_0) := (blk_cell BK171.out 0).trans rfl; have hcz18_1 : w17.cell? ⟨gb171, 1, none⟩ = some (.int .i64 a0_1) := (blk_cell BK171.out 1).trans rfl; have hcz18_2 : w17.cell? ⟨gb171, 2, none⟩ = some (.int .i64 a0_2) := (blk_cell BK171.out 2).trans rfl; have hcz18_3 : w17.cell? ⟨gb171, 3, none⟩ = some (.slice A0_3 l0_3.length c0_3) := (blk_cell BK171.out 3).trans rfl; have hfz18_0 := blk_frozen BK171.out 0; have hfz18_1 := blk_frozen BK171.out 1; have hfz18_2 := blk_frozen BK171.out 2; have hfz18_3 := blk_frozen BK171.out 3) | ((with_reducible refine gate_callee (f := 30) rfl ?_); refine goesL_ (some 53) rfl rfl Try.func30 (by kernel_rfl) rfl #[.agg #[.int .i64 a0_0, .int .i64 a0_1, .int .i64 a0_2, .slice A0_3 l0_3.length c0_3]] rfl (by (try simp only [List.map_toArray, List.map_cons, List.map_nil]); first | done | rfl | (simp only [List.length_drop, List.length_take]; rfl)) ?_; (with_reducible refine (coppicerref_Proper.calls k a0_0 a0_1 a0_2 _ _ l0_3 true _ ?side1 ?side2 A9.out).mono ?_); (case side1 => repeat (first | exact (Kd.C_below HR0_3.out HB.out) | (with_reducible refine Kd.C_alloc ?_ _) | (with_reducible refine Kd.C_drewN ?_ _) | (with_reducible refine Kd.C_drew ?_))); (case side2 => exact HC0_3.out); rintro e w19 ⟨rfl, hb⟩; refine ⟨_, rfl, ?_⟩; have n0_ := Aside0.mk (blk_below (g := gb171) (o := .cells #[.int .i64 a0_0, .int .i64 a0_1, .int .i64 a0_2, .slice A0_3 l0_3.length c0_3] 51 (0, 0)) (by (with_reducible repeat (first | refine blk_drewN ?_ _ | refine blk_drew ?_ | refine blk_alloc ?_ _)); exact BK171.out) hb); have n1_ := Aside0.mk (below_step (by repeat (first | (with_reducible first | exact HB.out | apply below_alloc | apply pw_below_drewN | apply below_drew1 | refine below_set ?_ GE171.out) | exact HB.out)) hb); clear BK171; clear HB; have BK171 := n0_; have HB := n1_; clear n0_ n1_; (try clear hb); (try clear hb2); (try clear hk); (try clear hi)))
          go_ret
          exact ⟨by first | rfl | (simp [errW_none, errW_some] <;> rfl) | (simp [*, errW_none, errW_some] <;> rfl), by repeat (first | (with_reducible first | exact HB.out | apply below_alloc | apply pw_below_drewN | apply below_drew1 | refine below_set ?_ GE171.out) | exact HB.out)⟩
        · replace c10 := Bool.eq_false_iff.mpr c10
          subst c10
          have H1 : (some false) = some r := by rw [if_neg (show ¬ (false = true) by decide)] at H; exact H
          clear H
          have H := H1
          clear H1
          obtain rfl := Option.some.inj H
          go_enter Try.func9, Try.ntmps9
          go_wp2_with (first | ((with_reducible refine gate_dst (N := 2) rfl ?_); refine box_event ?hg (N := 2) ?hd (cs := #[.int .i64 a0_0, .int .i64 a0_1, .int .i64 a0_2, .slice A0_3 l0_3.length c0_3]) (t := 51) ?hr ?_; (case hd => rfl); (case hg => rfl); (case hr => first | (go_simp; done) | (go_simp; rfl)); intro gb171 hg w20 hbox hb; have n0_ := Aside0.mk (below_step (by repeat (first | (with_reducible first | exact HB.out | apply below_alloc | apply pw_below_drewN | apply below_drew1) | exact HB.out)) hb); have n1_ := Aside0.mk (hbox); have n2_ := Aside0.mk ((by rw [hg]; exact (below_size (by repeat (first | (with_reducible first | exact HB.out | apply below_alloc | apply pw_below_drewN | apply below_drew1) | exact HB.out))) : w.heap.size ≤ gb171)); have n3_ := Aside0.mk ((by rw [hg]; exact (below_size (by repeat (first | (with_reducible first | exact HB.out | apply below_alloc | apply pw_below_drewN | apply below_drew1) | exact HB.out))) : w.heap.size ≤ gb171)); clear HB; have HB := n0_; have BK171 := n1_; have GW171 := n2_; have GE171 := n3_; clear n0_ n1_ n2_ n3_; clear hb hbox hg; have hcz21_0 : w20.cell? ⟨gb171, 0, none⟩ = some (.int .i64 a0_0) := (blk_cell BK171.out 0).trans rfl; have hcz21_1 : w20.cell? ⟨gb171, 1, none⟩ = some (.int .i64 a0_1) := (blk_cell BK171.out 1).trans rfl; have hcz21_2 : w20.cell? ⟨gb171, 2, none⟩ = some (.int .i64 a0_2) := (blk_cell BK171.out 2).trans rfl; have hcz21_3 : w20.cell? ⟨gb171, 3, none⟩ = some (.slice A0_3 l0_3.length c0_3) := (blk_cell BK171.out 3).trans rfl; have hfz21_0 := blk_frozen BK171.out 0; have hfz21_1 := blk_frozen BK171.out 1; have hfz21_2 := blk_frozen BK171.out 2; have hfz21_3 := blk_frozen BK171.out 3) | ((with_reducible refine gate_callee (f := 27) rfl ?_); refine goesL_ (some 12) rfl rfl Try.func27 (by kernel_rfl) rfl #[.agg #[.int .i64 a0_0, .int .i64 a0_1, .int .i64 a0_2, .slice A0_3 l0_3.length c0_3], .slice A1 l1.length c1] rfl (by (try simp only [List.map_toArray, List.map_cons, List.map_nil]); first | done | rfl | (simp only [List.length_drop, List.length_take]; rfl)) ?_; (with_reducible refine (table_Trees.calls k a0_0 a0_1 a0_2 _ _ l0_3 _ _ l1 t172 t173 _ ?side1 ?side2 ?side3 ?side4 A3.out).mono ?_); (case side1 => repeat (first | exact (Kd.C_below HR0_3.out HB.out) | (with_reducible refine Kd.C_alloc ?_ _) | (with_reducible refine Kd.C_drewN ?_ _) | (with_reducible refine Kd.C_drew ?_))); (case side2 => exact HC0_3.out); (case side3 => repeat (first | exact (Kd.C_below HR1.out HB.out) | (with_reducible refine Kd.C_alloc ?_ _) | (with_reducible refine Kd.C_drewN ?_ _) | (with_reducible refine Kd.C_drew ?_))); (case side4 => exact HC1.out); rintro e w22 ⟨rfl, hb⟩; refine ⟨_, rfl, ?_⟩; have n0_ := Aside0.mk (blk_below (g := gb171) (o := .cells #[.int .i64 a0_0, .int .i64 a0_1, .int .i64 a0_2, .slice A0_3 l0_3.length c0_3] 51 (0, 0)) (by (with_reducible repeat (first | refine blk_drewN ?_ _ | refine blk_drew ?_ | refine blk_alloc ?_ _)); exact BK171.out) hb); have n1_ := Aside0.mk (below_step (by repeat (first | (with_reducible first | exact HB.out | apply below_alloc | apply pw_below_drewN | apply below_drew1 | refine below_set ?_ GE171.out) | exact HB.out)) hb); clear BK171; clear HB; have BK171 := n0_; have HB := n1_; clear n0_ n1_; (try clear hb); (try clear hb2); (try clear hk); (try clear hi); have hcz23_0 : w22.cell? ⟨gb171, 0, none⟩ = some (.int .i64 a0_0) := (blk_cell BK171.out 0).trans rfl; have hcz23_1 : w22.cell? ⟨gb171, 1, none⟩ = some (.int .i64 a0_1) := (blk_cell BK171.out 1).trans rfl; have hcz23_2 : w22.cell? ⟨gb171, 2, none⟩ = some (.int .i64 a0_2) := (blk_cell BK171.out 2).trans rfl; have hcz23_3 : w22.cell? ⟨gb171, 3, none⟩ = some (.slice A0_3 l0_3.length c0_3) := (blk_cell BK171.out 3).trans rfl; have hfz23_0 := blk_frozen BK171.out 0; have hfz23_1 := blk_frozen BK171.out 1; have hfz23_2 := blk_frozen BK171.out 2; have hfz23_3 := blk_frozen BK171.out 3) | ((with_reducible refine gate_callee (f := 28) rfl ?_); refine goesL_ (some 18) rfl rfl Try.func28 (by kernel_rfl) rfl #[.agg #[.int .i64 a0_0, .int .i64 a0_1, .int .i64 a0_2, .slice A0_3 l0_3.length c0_3], .slice A1 l1.length c1] rfl (by (try simp only [List.map_toArray, List.map_cons, List.map_nil]); first | done | rfl | (simp only [List.length_drop, List.length_take]; rfl)) ?_; (with_reducible refine (table_Takes.calls k a0_0 a0_1 a0_2 _ _ l0_3 _ _ l1 t174 t175 _ ?side1 ?side2 ?side3 ?side4 A4.out).mono ?_); (case side1 => repeat (first | exact (Kd.C_below HR0_3.out HB.out) | (with_reducible refine Kd.C_alloc ?_ _) | (with_reducible refine Kd.C_drewN ?_ _) | (with_reducible refine Kd.C_drew ?_))); (case side2 => exact HC0_3.out); (case side3 => repeat (first | exact (Kd.C_below HR1.out HB.out) | (with_reducible refine Kd.C_alloc ?_ _) | (with_reducible refine Kd.C_drewN ?_ _) | (with_reducible refine Kd.C_drew ?_))); (case side4 => exact HC1.out); rintro e w24 ⟨rfl, hb⟩; refine ⟨_, rfl, ?_⟩; have n0_ := Aside0.mk (blk_below (g := gb171) (o := .cells #[.int .i64 a0_0, .int .i64 a0_1, .int .i64 a0_2, .slice A0_3 l0_3.length c0_3] 51 (0, 0)) (by (with_reducible repeat (first | refine blk_drewN ?_ _ | refine blk_drew ?_ | refine blk_alloc ?_ _)); exact BK171.out) hb); have n1_ := Aside0.mk (below_step (by repeat (first | (with_reducible first | exact HB.out | apply below_alloc | apply pw_below_drewN | apply below_drew1 | refine below_set ?_ GE171.out) | exact HB.out)) hb); clear BK171; clear HB; have BK171 := n0_; have HB := n1_; clear n0_ n1_; (try clear hb); (try clear hb2); (try clear hk); (try clear hi); have hcz25_0 : w24.cell? ⟨gb171, 0, none⟩ = some (.int .i64 a0_0) := (blk_cell BK171.out 0).trans rfl; have hcz25_1 : w24.cell? ⟨gb171, 1, none⟩ = some (.int .i64 a0_1) := (blk_cell BK171.out 1).trans rfl; have hcz25_2 : w24.cell? ⟨gb171, 2, none⟩ = some (.int .i64 a0_2) := (blk_cell BK171.out 2).trans rfl; have hcz25_3 : w24.cell? ⟨gb171, 3, none⟩ = some (.slice A0_3 l0_3.length c0_3) := (blk_cell BK171.out 3).trans rfl; have hfz25_0 := blk_frozen BK171.out 0; have hfz25_1 := blk_frozen BK171.out 1; have hfz25_2 := blk_frozen BK171.out 2; have hfz25_3 := blk_frozen BK171.out 3) | ((with_reducible refine gate_callee (f := 29) rfl ?_); refine goesL_ (some 23) rfl rfl Try.func29 (by kernel_rfl) rfl #[.agg #[.int .i64 a0_0, .int .i64 a0_1, .int .i64 a0_2, .slice A0_3 l0_3.length c0_3], .slice A1 l1.length c1] rfl (by (try simp only [List.map_toArray, List.map_cons, List.map_nil]); first | done | rfl | (simp only [List.length_drop, List.length_take]; rfl)) ?_; (with_reducible refine (coppicerkeep_grown.calls k a0_0 a0_1 a0_2 _ _ l0_3 _ _ l1 true _ ?side1 ?side2 ?side3 ?side4 A5.out).mono ?_); (case side1 => repeat (first | exact (Kd.C_below HR0_3.out HB.out) | (with_reducible refine Kd.C_alloc ?_ _) | (with_reducible refine Kd.C_drewN ?_ _) | (with_reducible refine Kd.C_drew ?_))); (case side2 => exact HC0_3.out); (case side3 => repeat (first | exact (Kd.C_below HR1.out HB.out) | (with_reducible refine Kd.C_alloc ?_ _) | (with_reducible refine Kd.C_drewN ?_ _) | (with_reducible refine Kd.C_drew ?_))); (case side4 => exact HC1.out); rintro e w26 ⟨rfl, hb⟩; refine ⟨_, rfl, ?_⟩; have n0_ := Aside0.mk (blk_below (g := gb171) (o := .cells #[.int .i64 a0_0, .int .i64 a0_1, .int .i64 a0_2, .slice A0_3 l0_3.length c0_3] 51 (0, 0)) (by (with_reducible repeat (first | refine blk_drewN ?_ _ | refine blk_drew ?_ | refine blk_alloc ?_ _)); exact BK171.out) hb); have n1_ := Aside0.mk (below_step (by repeat (first | (with_reducible first | exact HB.out | apply below_alloc | apply pw_below_drewN | apply below_drew1 | refine below_set ?_ GE171.out) | exact HB.out)) hb); clear BK171; clear HB; have BK171 := n0_; have HB := n1_; clear n0_ n1_; (try clear hb); (try clear hb2); (try clear hk); (try clear hi); have hcz27_0 : w26.cell? ⟨gb171, 0, none⟩ = some (.int .i64 a0_0) := (blk_cell BK171.out 0).trans rfl; have hcz27_1 : w26.cell? ⟨gb171, 1, none⟩ = some (.int .i64 a0_1) := (blk_cell BK171.out 1).trans rfl; have hcz27_2 : w26.cell? ⟨gb171, 2, none⟩ = some (.int .i64 a0_2) := (blk_cell BK171.out 2).trans rfl; have hcz27_3 : w26.cell? ⟨gb171, 3, none⟩ = some (.slice A0_3 l0_3.length c0_3) := (blk_cell BK171.out 3).trans rfl; have hfz27_0 := blk_frozen BK171.out 0; have hfz27_1 := blk_frozen BK171.out 1; have hfz27_2 := blk_frozen BK171.out 2; have hfz27_3 := blk_frozen BK171.out 3) | ((with_reducible refine gate_callee (f := 30) rfl ?_); refine goesL_ (some 53) rfl rfl Try.func30 (by kernel_rfl) rfl #[.agg #[.int .i64 a0_0, .int .i64 a0_1, .int .i64 a0_2, .slice A0_3 l0_3.length c0_3]] rfl (by (try simp only [List.map_toArray, List.map_cons, List.map_nil]); first | done | rfl | (simp only [List.length_drop, List.length_take]; rfl)) ?_; (with_reducible refine (coppicerref_Proper.calls k a0_0 a0_1 a0_2 _ _ l0_3 false _ ?side1 ?side2 A9.out).mono ?_); (case side1 => repeat (first | exact (Kd.C_below HR0_3.out HB.out) | (with_reducible refine Kd.C_alloc ?_ _) | (with_reducible refine Kd.C_drewN ?_ _) | (with_reducible refine Kd.C_drew ?_))); (case side2 => exact HC0_3.out); rintro e w28 ⟨rfl, hb⟩; refine ⟨_, rfl, ?_⟩; have n0_ := Aside0.mk (blk_below (g := gb171) (o := .cells #[.int .i64 a0_0, .int .i64 a0_1, .int .i64 a0_2, .slice A0_3 l0_3.length c0_3] 51 (0, 0)) (by (with_reducible repeat (first | refine blk_drewN ?_ _ | refine blk_drew ?_ | refine blk_alloc ?_ _)); exact BK171.out) hb); have n1_ := Aside0.mk (below_step (by repeat (first | (with_reducible first | exact HB.out | apply below_alloc | apply pw_below_drewN | apply below_drew1 | refine below_set ?_ GE171.out) | exact HB.out)) hb); clear BK171; clear HB; have BK171 := n0_; have HB := n1_; clear n0_ n1_; (try clear hb); (try clear hb2); (try clear hk); (try clear hi)))
          go_ret
          exact ⟨by first | rfl | (simp [errW_none, errW_some] <;> rfl) | (simp [*, errW_none, errW_some] <;> rfl), by repeat (first | (with_reducible first | exact HB.out | apply below_alloc | apply pw_below_drewN | apply below_drew1 | refine below_set ?_ GE171.out) | exact HB.out)⟩
      · rw [if_neg c8] at H
        have c8b0 : (t173 == 0) = false := beq_eq_false_iff_ne.mpr c8
        have c8b1 : (t173 != 0) = true := bne_iff_ne.mpr c8
        have HC29 := Aside0.mk H
        clear H
        go_enter Try.func9, Try.ntmps9
        go_upto_region 8 with (first | ((with_reducible refine gate_dst (N := 2) rfl ?_); refine box_event ?hg (N := 2) ?hd (cs := #[.int .i64 a0_0, .int .i64 a0_1, .int .i64 a0_2, .slice A0_3 l0_3.length c0_3]) (t := 51) ?hr ?_; (case hd => rfl); (case hg => rfl); (case hr => first | (go_simp; done) | (go_simp; rfl)); intro gb171 hg w30 hbox hb; have n0_ := Aside0.mk (below_step (by repeat (first | (with_reducible first | exact HB.out | apply below_alloc | apply pw_below_drewN | apply below_drew1) | exact HB.out)) hb); have n1_ := Aside0.mk (hbox); have n2_ := Aside0.mk ((by rw [hg]; exact (below_size (by repeat (first | (with_reducible first | exact HB.out | apply below_alloc | apply pw_below_drewN | apply below_drew1) | exact HB.out))) : w.heap.size ≤ gb171)); have n3_ := Aside0.mk ((by rw [hg]; exact (below_size (by repeat (first | (with_reducible first | exact HB.out | apply below_alloc | apply pw_below_drewN | apply below_drew1) | exact HB.out))) : w.heap.size ≤ gb171)); clear HB; have HB := n0_; have BK171 := n1_; have GW171 := n2_; have GE171 := n3_; clear n0_ n1_ n2_ n3_; clear hb hbox hg; have hcz31_0 : w30.cell? ⟨gb171, 0, none⟩ = some (.int .i64 a0_0) := (blk_cell BK171.out 0).trans rfl; have hcz31_1 : w30.cell? ⟨gb171, 1, none⟩ = some (.int .i64 a0_1) := (blk_cell BK171.out 1).trans rfl; have hcz31_2 : w30.cell? ⟨gb171, 2, none⟩ = some (.int .i64 a0_2) := (blk_cell BK171.out 2).trans rfl; have hcz31_3 : w30.cell? ⟨gb171, 3, none⟩ = some (.slice A0_3 l0_3.length c0_3) := (blk_cell BK171.out 3).trans rfl; have hfz31_0 := blk_frozen BK171.out 0; have hfz31_1 := blk_frozen BK171.out 1; have hfz31_2 := blk_frozen BK171.out 2; have hfz31_3 := blk_frozen BK171.out 3) | ((with_reducible refine gate_callee (f := 27) rfl ?_); refine goesL_ (some 12) rfl rfl Try.func27 (by kernel_rfl) rfl #[.agg #[.int .i64 a0_0, .int .i64 a0_1, .int .i64 a0_2, .slice A0_3 l0_3.length c0_3], .slice A1 l1.length c1] rfl (by (try simp only [List.map_toArray, List.map_cons, List.map_nil]); first | done | rfl | (simp only [List.length_drop, List.length_take]; rfl)) ?_; (with_reducible refine (table_Trees.calls k a0_0 a0_1 a0_2 _ _ l0_3 _ _ l1 t172 t173 _ ?side1 ?side2 ?side3 ?side4 A3.out).mono ?_); (case side1 => repeat (first | exact (Kd.C_below HR0_3.out HB.out) | (with_reducible refine Kd.C_alloc ?_ _) | (with_reducible refine Kd.C_drewN ?_ _) | (with_reducible refine Kd.C_drew ?_))); (case side2 => exact HC0_3.out); (case side3 => repeat (first | exact (Kd.C_below HR1.out HB.out) | (with_reducible refine Kd.C_alloc ?_ _) | (with_reducible refine Kd.C_drewN ?_ _) | (with_reducible refine Kd.C_drew ?_))); (case side4 => exact HC1.out); rintro e w32 ⟨rfl, hb⟩; refine ⟨_, rfl, ?_⟩; have n0_ := Aside0.mk (blk_below (g := gb171) (o := .cells #[.int .i64 a0_0, .int .i64 a0_1, .int .i64 a0_2, .slice A0_3 l0_3.length c0_3] 51 (0, 0)) (by (with_reducible repeat (first | refine blk_drewN ?_ _ | refine blk_drew ?_ | refine blk_alloc ?_ _)); exact BK171.out) hb); have n1_ := Aside0.mk (below_step (by repeat (first | (with_reducible first | exact HB.out | apply below_alloc | apply pw_below_drewN | apply below_drew1 | refine below_set ?_ GE171.out) | exact HB.out)) hb); clear BK171; clear HB; have BK171 := n0_; have HB := n1_; clear n0_ n1_; (try clear hb); (try clear hb2); (try clear hk); (try clear hi); have hcz33_0 : w32.cell? ⟨gb171, 0, none⟩ = some (.int .i64 a0_0) := (blk_cell BK171.out 0).trans rfl; have hcz33_1 : w32.cell? ⟨gb171, 1, none⟩ = some (.int .i64 a0_1) := (blk_cell BK171.out 1).trans rfl; have hcz33_2 : w32.cell? ⟨gb171, 2, none⟩ = some (.int .i64 a0_2) := (blk_cell BK171.out 2).trans rfl; have hcz33_3 : w32.cell? ⟨gb171, 3, none⟩ = some (.slice A0_3 l0_3.length c0_3) := (blk_cell BK171.out 3).trans rfl; have hfz33_0 := blk_frozen BK171.out 0; have hfz33_1 := blk_frozen BK171.out 1; have hfz33_2 := blk_frozen BK171.out 2; have hfz33_3 := blk_frozen BK171.out 3) | ((with_reducible refine gate_callee (f := 28) rfl ?_); refine goesL_ (some 18) rfl rfl Try.func28 (by kernel_rfl) rfl #[.agg #[.int .i64 a0_0, .int .i64 a0_1, .int .i64 a0_2, .slice A0_3 l0_3.length c0_3], .slice A1 l1.length c1] rfl (by (try simp only [List.map_toArray, List.map_cons, List.map_nil]); first | done | rfl | (simp only [List.length_drop, List.length_take]; rfl)) ?_; (with_reducible refine (table_Takes.calls k a0_0 a0_1 a0_2 _ _ l0_3 _ _ l1 t174 t175 _ ?side1 ?side2 ?side3 ?side4 A4.out).mono ?_); (case side1 => repeat (first | exact (Kd.C_below HR0_3.out HB.out) | (with_reducible refine Kd.C_alloc ?_ _) | (with_reducible refine Kd.C_drewN ?_ _) | (with_reducible refine Kd.C_drew ?_))); (case side2 => exact HC0_3.out); (case side3 => repeat (first | exact (Kd.C_below HR1.out HB.out) | (with_reducible refine Kd.C_alloc ?_ _) | (with_reducible refine Kd.C_drewN ?_ _) | (with_reducible refine Kd.C_drew ?_))); (case side4 => exact HC1.out); rintro e w34 ⟨rfl, hb⟩; refine ⟨_, rfl, ?_⟩; have n0_ := Aside0.mk (blk_below (g := gb171) (o := .cells #[.int .i64 a0_0, .int .i64 a0_1, .int .i64 a0_2, .slice A0_3 l0_3.length c0_3] 51 (0, 0)) (by (with_reducible repeat (first | refine blk_drewN ?_ _ | refine blk_drew ?_ | refine blk_alloc ?_ _)); exact BK171.out) hb); have n1_ := Aside0.mk (below_step (by repeat (first | (with_reducible first | exact HB.out | apply below_alloc | apply pw_below_drewN | apply below_drew1 | refine below_set ?_ GE171.out) | exact HB.out)) hb); clear BK171; clear HB; have BK171 := n0_; have HB := n1_; clear n0_ n1_; (try clear hb); (try clear hb2); (try clear hk); (try clear hi); have hcz35_0 : w34.cell? ⟨gb171, 0, none⟩ = some (.int .i64 a0_0) := (blk_cell BK171.out 0).trans rfl; have hcz35_1 : w34.cell? ⟨gb171, 1, none⟩ = some (.int .i64 a0_1) := (blk_cell BK171.out 1).trans rfl; have hcz35_2 : w34.cell? ⟨gb171, 2, none⟩ = some (.int .i64 a0_2) := (blk_cell BK171.out 2).trans rfl; have hcz35_3 : w34.cell? ⟨gb171, 3, none⟩ = some (.slice A0_3 l0_3.length c0_3) := (blk_cell BK171.out 3).trans rfl; have hfz35_0 := blk_frozen BK171.out 0; have hfz35_1 := blk_frozen BK171.out 1; have hfz35_2 := blk_frozen BK171.out 2; have hfz35_3 := blk_frozen BK171.out 3) | ((with_reducible refine gate_callee (f := 29) rfl ?_); refine goesL_ (some 23) rfl rfl Try.func29 (by kernel_rfl) rfl #[.agg #[.int .i64 a0_0, .int .i64 a0_1, .int .i64 a0_2, .slice A0_3 l0_3.length c0_3], .slice A1 l1.length c1] rfl (by (try simp only [List.map_toArray, List.map_cons, List.map_nil]); first | done | rfl | (simp only [List.length_drop, List.length_take]; rfl)) ?_; (with_reducible refine (coppicerkeep_grown.calls k a0_0 a0_1 a0_2 _ _ l0_3 _ _ l1 true _ ?side1 ?side2 ?side3 ?side4 A5.out).mono ?_); (case side1 => repeat (first | exact (Kd.C_below HR0_3.out HB.out) | (with_reducible refine Kd.C_alloc ?_ _) | (with_reducible refine Kd.C_drewN ?_ _) | (with_reducible refine Kd.C_drew ?_))); (case side2 => exact HC0_3.out); (case side3 => repeat (first | exact (Kd.C_below HR1.out HB.out) | (with_reducible refine Kd.C_alloc ?_ _) | (with_reducible refine Kd.C_drewN ?_ _) | (with_reducible refine Kd.C_drew ?_))); (case side4 => exact HC1.out); rintro e w36 ⟨rfl, hb⟩; refine ⟨_, rfl, ?_⟩; have n0_ := Aside0.mk (blk_below (g := gb171) (o := .cells #[.int .i64 a0_0, .int .i64 a0_1, .int .i64 a0_2, .slice A0_3 l0_3.length c0_3] 51 (0, 0)) (by (with_reducible repeat (first | refine blk_drewN ?_ _ | refine blk_drew ?_ | refine blk_alloc ?_ _)); exact BK171.out) hb); have n1_ := Aside0.mk (below_step (by repeat (first | (with_reducible first | exact HB.out | apply below_alloc | apply pw_below_drewN | apply below_drew1 | refine below_set ?_ GE171.out) | exact HB.out)) hb); clear BK171; clear HB; have BK171 := n0_; have HB := n1_; clear n0_ n1_; (try clear hb); (try clear hb2); (try clear hk); (try clear hi)))
        (try simp only [Act.put, List.setIfInBounds_toArray, List.set_cons_zero, List.set_cons_succ])
        go_cut [4] (fun v4 wc => ∃ (kq : Nat) (x4_28 : Bool), v4 = .bool x4_28 ∧ Aside0 (coppicerkeep_TableTree.j0 kq x4_28 = some r) ∧ Aside0 (kq ≤ k) ∧ Aside0 (wc.heap[gb171]? = some (.cells #[.int .i64 a0_0, .int .i64 a0_1, .int .i64 a0_2, (.slice A0_3 l0_3.length c0_3)] 51 (0, 0))) ∧ Aside0 (Below w.heap.size w wc))
        case first =>
          have H := HC29.out
          clear HC29
          by_cases c37 : t172 = 0
          · rw [if_pos c37] at H
            have c37b0 : (t172 == 0) = true := beq_iff_eq.mpr c37
            have c37b1 : (t172 != 0) = false := bne_eq_false_iff_eq.mpr c37
            clear c37
            (first | rw [c37b0] | (simp only [i64_w, i32_w]; rw [c37b0]) | skip)
            replace H := Option.bind_eq_some_iff.mp H
            obtain ⟨t177, A380, H⟩ := H
            replace H : (if ((t173 == 3) == (!t177)) = true then (if t173 = 1 then (coppicerkeep_TableTree.j0 k t174) else (coppicerkeep_TableTree.j0 k true)) else (coppicerkeep_TableTree.j0 k false)) = some r := H
            have A38 := Aside0.mk A380
            clear A380
            by_cases c39 : ((t173 == 3) == (!t177)) = true
            · rw [if_pos c39] at H
              have c39b0 : ((t173 == 3) == (!t177)) = true := c39
              (try (have c39b1 : decide ((t173 == 3) = (!t177)) = true := by simpa using c39))
              (try (have c39b2 : ((t173 == 3) == (!t177)) = true := by simpa using c39))
              clear c39
              by_cases c40 : t173 = 1
              · rw [if_pos c40] at H
                have c40b0 : (t173 == 1) = true := beq_iff_eq.mpr c40
                have c40b1 : (t173 != 1) = false := bne_eq_false_iff_eq.mpr c40
                clear c40
                have H' := Aside0.mk H
                clear H
                have hcz41_0 : w36.cell? ⟨gb171, 0, none⟩ = some (.int .i64 a0_0) := (blk_cell BK171.out 0).trans rfl
                have hcz41_1 : w36.cell? ⟨gb171, 1, none⟩ = some (.int .i64 a0_1) := (blk_cell BK171.out 1).trans rfl
                have hcz41_2 : w36.cell? ⟨gb171, 2, none⟩ = some (.int .i64 a0_2) := (blk_cell BK171.out 2).trans rfl
                have hcz41_3 : w36.cell? ⟨gb171, 3, none⟩ = some (.slice A0_3 l0_3.length c0_3) := (blk_cell BK171.out 3).trans rfl
                have hfz41_0 := blk_frozen BK171.out 0
                have hfz41_1 := blk_frozen BK171.out 1
                have hfz41_2 := blk_frozen BK171.out 2
                have hfz41_3 := blk_frozen BK171.out 3
                go_wp2_with (first | (go_at_call 30; (with_reducible refine (coppicerref_Proper.calls k a0_0 a0_1 a0_2 _ _ l0_3 t177 _ ?side1 ?side2 A38.out).mono ?_); (case side1 => repeat (first | exact (Kd.C_below HR0_3.out HB.out) | (with_reducible refine Kd.C_alloc ?_ _) | (with_reducible refine Kd.C_drewN ?_ _) | (with_reducible refine Kd.C_drew ?_))); (case side2 => exact HC0_3.out); rintro e w42 ⟨rfl, hb⟩; have n0_ := Aside0.mk (blk_below (g := gb171) (o := .cells #[.int .i64 a0_0, .int .i64 a0_1, .int .i64 a0_2, .slice A0_3 l0_3.length c0_3] 51 (0, 0)) (by (with_reducible repeat (first | refine blk_drewN ?_ _ | refine blk_drew ?_ | refine blk_alloc ?_ _)); exact BK171.out) hb); have n1_ := Aside0.mk (below_step (by repeat (first | (with_reducible first | exact HB.out | apply below_alloc | apply pw_below_drewN | apply below_drew1 | refine below_set ?_ GE171.out) | exact HB.out)) hb); clear BK171; clear HB; have BK171 := n0_; have HB := n1_; clear n0_ n1_; (try clear hb); (try clear hb2); (try clear hk); (try clear hi)))
                go_meet
                case rel => exact ⟨_, (t174), (by first | rfl | (simp; done) | (simp [*]; done)), H', ⟨by first | omega | exact Nat.le_refl _⟩, ⟨by (with_reducible repeat (first | refine blk_drewN ?_ _ | refine blk_drew ?_ | refine blk_alloc ?_ _)); exact BK171.out⟩, ⟨by repeat (first | (with_reducible first | exact HB.out | apply below_alloc | apply pw_below_drewN | apply below_drew1 | refine below_set ?_ GE171.out) | exact HB.out)⟩⟩
              · rw [if_neg c40] at H
                have c40b0 : (t173 == 1) = false := beq_eq_false_iff_ne.mpr c40
                have c40b1 : (t173 != 1) = true := bne_iff_ne.mpr c40
                have H' := Aside0.mk H
                clear H
                have hcz43_0 : w36.cell? ⟨gb171, 0, none⟩ = some (.int .i64 a0_0) := (blk_cell BK171.out 0).trans rfl
                have hcz43_1 : w36.cell? ⟨gb171, 1, none⟩ = some (.int .i64 a0_1) := (blk_cell BK171.out 1).trans rfl
                have hcz43_2 : w36.cell? ⟨gb171, 2, none⟩ = some (.int .i64 a0_2) := (blk_cell BK171.out 2).trans rfl
                have hcz43_3 : w36.cell? ⟨gb171, 3, none⟩ = some (.slice A0_3 l0_3.length c0_3) := (blk_cell BK171.out 3).trans rfl
                have hfz43_0 := blk_frozen BK171.out 0
                have hfz43_1 := blk_frozen BK171.out 1
                have hfz43_2 := blk_frozen BK171.out 2
                have hfz43_3 := blk_frozen BK171.out 3
                go_wp2_with (first | (go_at_call 30; (with_reducible refine (coppicerref_Proper.calls k a0_0 a0_1 a0_2 _ _ l0_3 t177 _ ?side1 ?side2 A38.out).mono ?_); (case side1 => repeat (first | exact (Kd.C_below HR0_3.out HB.out) | (with_reducible refine Kd.C_alloc ?_ _) | (with_reducible refine Kd.C_drewN ?_ _) | (with_reducible refine Kd.C_drew ?_))); (case side2 => exact HC0_3.out); rintro e w44 ⟨rfl, hb⟩; have n0_ := Aside0.mk (blk_below (g := gb171) (o := .cells #[.int .i64 a0_0, .int .i64 a0_1, .int .i64 a0_2, .slice A0_3 l0_3.length c0_3] 51 (0, 0)) (by (with_reducible repeat (first | refine blk_drewN ?_ _ | refine blk_drew ?_ | refine blk_alloc ?_ _)); exact BK171.out) hb); have n1_ := Aside0.mk (below_step (by repeat (first | (with_reducible first | exact HB.out | apply below_alloc | apply pw_below_drewN | apply below_drew1 | refine below_set ?_ GE171.out) | exact HB.out)) hb); clear BK171; clear HB; have BK171 := n0_; have HB := n1_; clear n0_ n1_; (try clear hb); (try clear hb2); (try clear hk); (try clear hi)))
                go_meet
                case rel => exact ⟨_, (true), (by first | rfl | (simp; done) | (simp [*]; done)), H', ⟨by first | omega | exact Nat.le_refl _⟩, ⟨by (with_reducible repeat (first | refine blk_drewN ?_ _ | refine blk_drew ?_ | refine blk_alloc ?_ _)); exact BK171.out⟩, ⟨by repeat (first | (with_reducible first | exact HB.out | apply below_alloc | apply pw_below_drewN | apply below_drew1 | refine below_set ?_ GE171.out) | exact HB.out)⟩⟩
            · rw [if_neg c39] at H
              have c39b0 : ((t173 == 3) == (!t177)) = false := by simpa using c39
              (try (have c39b1 : decide ((t173 == 3) = (!t177)) = false := by simpa using c39))
              (try (have c39b2 : ((t173 == 3) == (!t177)) = false := by simpa using c39))
              (try (have c39b3 : ¬ ((t173 == 3) = (!t177)) := by simpa using c39))
              clear c39
              have H' := Aside0.mk H
              clear H
              have hcz45_0 : w36.cell? ⟨gb171, 0, none⟩ = some (.int .i64 a0_0) := (blk_cell BK171.out 0).trans rfl
              have hcz45_1 : w36.cell? ⟨gb171, 1, none⟩ = some (.int .i64 a0_1) := (blk_cell BK171.out 1).trans rfl
              have hcz45_2 : w36.cell? ⟨gb171, 2, none⟩ = some (.int .i64 a0_2) := (blk_cell BK171.out 2).trans rfl
              have hcz45_3 : w36.cell? ⟨gb171, 3, none⟩ = some (.slice A0_3 l0_3.length c0_3) := (blk_cell BK171.out 3).trans rfl
              have hfz45_0 := blk_frozen BK171.out 0
              have hfz45_1 := blk_frozen BK171.out 1
              have hfz45_2 := blk_frozen BK171.out 2
              have hfz45_3 := blk_frozen BK171.out 3
              go_wp2_with (first | (go_at_call 30; (with_reducible refine (coppicerref_Proper.calls k a0_0 a0_1 a0_2 _ _ l0_3 t177 _ ?side1 ?side2 A38.out).mono ?_); (case side1 => repeat (first | exact (Kd.C_below HR0_3.out HB.out) | (with_reducible refine Kd.C_alloc ?_ _) | (with_reducible refine Kd.C_drewN ?_ _) | (with_reducible refine Kd.C_drew ?_))); (case side2 => exact HC0_3.out); rintro e w46 ⟨rfl, hb⟩; have n0_ := Aside0.mk (blk_below (g := gb171) (o := .cells #[.int .i64 a0_0, .int .i64 a0_1, .int .i64 a0_2, .slice A0_3 l0_3.length c0_3] 51 (0, 0)) (by (with_reducible repeat (first | refine blk_drewN ?_ _ | refine blk_drew ?_ | refine blk_alloc ?_ _)); exact BK171.out) hb); have n1_ := Aside0.mk (below_step (by repeat (first | (with_reducible first | exact HB.out | apply below_alloc | apply pw_below_drewN | apply below_drew1 | refine below_set ?_ GE171.out) | exact HB.out)) hb); clear BK171; clear HB; have BK171 := n0_; have HB := n1_; clear n0_ n1_; (try clear hb); (try clear hb2); (try clear hk); (try clear hi)))
              go_meet
              case rel => exact ⟨_, (false), (by first | rfl | (simp; done) | (simp [*]; done)), H', ⟨by first | omega | exact Nat.le_refl _⟩, ⟨by (with_reducible repeat (first | refine blk_drewN ?_ _ | refine blk_drew ?_ | refine blk_alloc ?_ _)); exact BK171.out⟩, ⟨by repeat (first | (with_reducible first | exact HB.out | apply below_alloc | apply pw_below_drewN | apply below_drew1 | refine below_set ?_ GE171.out) | exact HB.out)⟩⟩
          · rw [if_neg c37] at H
            have c37b0 : (t172 == 0) = false := beq_eq_false_iff_ne.mpr c37
            have c37b1 : (t172 != 0) = true := bne_iff_ne.mpr c37
            (first | rw [c37b0] | (simp only [i64_w, i32_w]; rw [c37b0]) | skip)
            have H' := Aside0.mk H
            clear H
            go_wp2
            go_meet
            case rel => exact ⟨_, (false), (by first | rfl | (simp; done) | (simp [*]; done)), H', ⟨by first | omega | exact Nat.le_refl _⟩, ⟨by (with_reducible repeat (first | refine blk_drewN ?_ _ | refine blk_drew ?_ | refine blk_alloc ?_ _)); exact BK171.out⟩, ⟨by repeat (first | (with_reducible first | exact HB.out | apply below_alloc | apply pw_below_drewN | apply below_drew1 | refine below_set ?_ GE171.out) | exact HB.out)⟩⟩
        case rest =>
          clear HC29
          try clear c1
          try clear c2
          try clear p2
          try clear c3
          try clear c4
          try clear c6
          try clear c7
          try clear c7b0
          try clear c7b1
          try clear c8
          try clear c8b0
          try clear c8b1
          try clear c9
          try clear c10
          try clear c27
          try clear c28
          try clear c29
          try clear c30
          try clear c37
          try clear c37b0
          try clear c37b1
          try clear c39
          try clear c39b0
          try clear c39b1
          try clear c39b2
          try clear c40
          try clear c40b0
          try clear c40b1
          try clear hcz12_0
          try clear hcz12_1
          try clear hcz12_2
          try clear hcz12_3
          try clear hcz14_0
          try clear hcz14_1
          try clear hcz14_2
          try clear hcz14_3
          try clear hcz16_0
          try clear hcz16_1
          try clear hcz16_2
          try clear hcz16_3
          try clear hcz18_0
          try clear hcz18_1
          try clear hcz18_2
          try clear hcz18_3
          try clear hcz21_0
          try clear hcz21_1
          try clear hcz21_2
          try clear hcz21_3
          try clear hcz23_0
          try clear hcz23_1
          try clear hcz23_2
          try clear hcz23_3
          try clear hcz25_0
          try clear hcz25_1
          try clear hcz25_2
          try clear hcz25_3
          try clear hcz27_0
          try clear hcz27_1
          try clear hcz27_2
          try clear hcz27_3
          try clear hcz31_0
          try clear hcz31_1
          try clear hcz31_2
          try clear hcz31_3
          try clear hcz33_0
          try clear hcz33_1
          try clear hcz33_2
          try clear hcz33_3
          try clear hcz35_0
          try clear hcz35_1
          try clear hcz35_2
          try clear hcz35_3
          try clear hcz41_0
          try clear hcz41_1
          try clear hcz41_2
          try clear hcz41_3
          try clear hcz43_0
          try clear hcz43_1
          try clear hcz43_2
          try clear hcz43_3
          try clear hcz45_0
          try clear hcz45_1
          try clear hcz45_2
          try clear hcz45_3
          try clear hfz12_0
          try clear hfz12_1
          try clear hfz12_2
          try clear hfz12_3
          try clear hfz14_0
          try clear hfz14_1
          try clear hfz14_2
          try clear hfz14_3
          try clear hfz16_0
          try clear hfz16_1
          try clear hfz16_2
          try clear hfz16_3
          try clear hfz18_0
          try clear hfz18_1
          try clear hfz18_2
          try clear hfz18_3
          try clear hfz21_0
          try clear hfz21_1
          try clear hfz21_2
          try clear hfz21_3
          try clear hfz23_0
          try clear hfz23_1
          try clear hfz23_2
          try clear hfz23_3
          try clear hfz25_0
          try clear hfz25_1
          try clear hfz25_2
          try clear hfz25_3
          try clear hfz27_0
          try clear hfz27_1
          try clear hfz27_2
          try clear hfz27_3
          try clear hfz31_0
          try clear hfz31_1
          try clear hfz31_2
          try clear hfz31_3
          try clear hfz33_0
          try clear hfz33_1
          try clear hfz33_2
          try clear hfz33_3
          try clear hfz35_0
          try clear hfz35_1
          try clear hfz35_2
          try clear hfz35_3
          try clear hfz41_0
          try clear hfz41_1
          try clear hfz41_2
          try clear hfz41_3
          try clear hfz43_0
          try clear hfz43_1
          try clear hfz43_2
          try clear hfz43_3
          try clear hfz45_0
          try clear hfz45_1
          try clear hfz45_2
          try clear hfz45_3
          obtain ⟨kq, x4_28, rfl, HA, HJ28, BK171, HB⟩ := hcut
          cases kq with
          | zero => exact absurd HA.out (by simp [coppicerkeep_TableTree.j0])
          | succ kj28 =>
            have H := HA.out
            clear HA
            simp only [coppicerkeep_TableTree.j0] at H
            obtain rfl := Option.some.inj H
            go_wp2
            go_ret
            exact ⟨by first | rfl | (simp [errW_none, errW_some] <;> rfl) | (simp [*, errW_none, errW_some] <;> rfl), by repeat (first | (with_reducible first | exact HB.out | apply below_alloc | apply pw_below_drewN | apply below_drew1 | refine below_set ?_ GE171.out) | exact HB.out)⟩
    · rw [if_neg c7] at H
      have c7b0 : (t175 == 0) = false := beq_eq_false_iff_ne.mpr c7
      have c7b1 : (t175 != 0) = true := bne_iff_ne.mpr c7
      obtain rfl := Option.some.inj H
      go_enter Try.func9, Try.ntmps9
      go_wp2_with (first | ((with_reducible refine gate_dst (N := 2) rfl ?_); refine box_event ?hg (N := 2) ?hd (cs := #[.int .i64 a0_0, .int .i64 a0_1, .int .i64 a0_2, .slice A0_3 l0_3.length c0_3]) (t := 51) ?hr ?_; (case hd => rfl); (case hg => rfl); (case hr => first | (go_simp; done) | (go_simp; rfl)); intro gb171 hg w47 hbox hb; have n0_ := Aside0.mk (below_step (by repeat (first | (with_reducible first | exact HB.out | apply below_alloc | apply pw_below_drewN | apply below_drew1) | exact HB.out)) hb); have n1_ := Aside0.mk (hbox); have n2_ := Aside0.mk ((by rw [hg]; exact (below_size (by repeat (first | (with_reducible first | exact HB.out | apply below_alloc | apply pw_below_drewN | apply below_drew1) | exact HB.out))) : w.heap.size ≤ gb171)); have n3_ := Aside0.mk ((by rw [hg]; exact (below_size (by repeat (first | (with_reducible first | exact HB.out | apply below_alloc | apply pw_below_drewN | apply below_drew1) | exact HB.out))) : w.heap.size ≤ gb171)); clear HB; have HB := n0_; have BK171 := n1_; have GW171 := n2_; have GE171 := n3_; clear n0_ n1_ n2_ n3_; clear hb hbox hg; have hcz48_0 : w47.cell? ⟨gb171, 0, none⟩ = some (.int .i64 a0_0) := (blk_cell BK171.out 0).trans rfl; have hcz48_1 : w47.cell? ⟨gb171, 1, none⟩ = some (.int .i64 a0_1) := (blk_cell BK171.out 1).trans rfl; have hcz48_2 : w47.cell? ⟨gb171, 2, none⟩ = some (.int .i64 a0_2) := (blk_cell BK171.out 2).trans rfl; have hcz48_3 : w47.cell? ⟨gb171, 3, none⟩ = some (.slice A0_3 l0_3.length c0_3) := (blk_cell BK171.out 3).trans rfl; have hfz48_0 := blk_frozen BK171.out 0; have hfz48_1 := blk_frozen BK171.out 1; have hfz48_2 := blk_frozen BK171.out 2; have hfz48_3 := blk_frozen BK171.out 3) | ((with_reducible refine gate_callee (f := 27) rfl ?_); refine goesL_ (some 12) rfl rfl Try.func27 (by kernel_rfl) rfl #[.agg #[.int .i64 a0_0, .int .i64 a0_1, .int .i64 a0_2, .slice A0_3 l0_3.length c0_3], .slice A1 l1.length c1] rfl (by (try simp only [List.map_toArray, List.map_cons, List.map_nil]); first | done | rfl | (simp only [List.length_drop, List.length_take]; rfl)) ?_; (with_reducible refine (table_Trees.calls k a0_0 a0_1 a0_2 _ _ l0_3 _ _ l1 t172 t173 _ ?side1 ?side2 ?side3 ?side4 A3.out).mono ?_); (case side1 => repeat (first | exact (Kd.C_below HR0_3.out HB.out) | (with_reducible refine Kd.C_alloc ?_ _) | (with_reducible refine Kd.C_drewN ?_ _) | (with_reducible refine Kd.C_drew ?_))); (case side2 => exact HC0_3.out); (case side3 => repeat (first | exact (Kd.C_below HR1.out HB.out) | (with_reducible refine Kd.C_alloc ?_ _) | (with_reducible refine Kd.C_drewN ?_ _) | (with_reducible refine Kd.C_drew ?_))); (case side4 => exact HC1.out); rintro e w49 ⟨rfl, hb⟩; refine ⟨_, rfl, ?_⟩; have n0_ := Aside0.mk (blk_below (g := gb171) (o := .cells #[.int .i64 a0_0, .int .i64 a0_1, .int .i64 a0_2, .slice A0_3 l0_3.length c0_3] 51 (0, 0)) (by (with_reducible repeat (first | refine blk_drewN ?_ _ | refine blk_drew ?_ | refine blk_alloc ?_ _)); exact BK171.out) hb); have n1_ := Aside0.mk (below_step (by repeat (first | (with_reducible first | exact HB.out | apply below_alloc | apply pw_below_drewN | apply below_drew1 | refine below_set ?_ GE171.out) | exact HB.out)) hb); clear BK171; clear HB; have BK171 := n0_; have HB := n1_; clear n0_ n1_; (try clear hb); (try clear hb2); (try clear hk); (try clear hi); have hcz50_0 : w49.cell? ⟨gb171, 0, none⟩ = some (.int .i64 a0_0) := (blk_cell BK171.out 0).trans rfl; have hcz50_1 : w49.cell? ⟨gb171, 1, none⟩ = some (.int .i64 a0_1) := (blk_cell BK171.out 1).trans rfl; have hcz50_2 : w49.cell? ⟨gb171, 2, none⟩ = some (.int .i64 a0_2) := (blk_cell BK171.out 2).trans rfl; have hcz50_3 : w49.cell? ⟨gb171, 3, none⟩ = some (.slice A0_3 l0_3.length c0_3) := (blk_cell BK171.out 3).trans rfl; have hfz50_0 := blk_frozen BK171.out 0; have hfz50_1 := blk_frozen BK171.out 1; have hfz50_2 := blk_frozen BK171.out 2; have hfz50_3 := blk_frozen BK171.out 3) | ((with_reducible refine gate_callee (f := 28) rfl ?_); refine goesL_ (some 18) rfl rfl Try.func28 (by kernel_rfl) rfl #[.agg #[.int .i64 a0_0, .int .i64 a0_1, .int .i64 a0_2, .slice A0_3 l0_3.length c0_3], .slice A1 l1.length c1] rfl (by (try simp only [List.map_toArray, List.map_cons, List.map_nil]); first | done | rfl | (simp only [List.length_drop, List.length_take]; rfl)) ?_; (with_reducible refine (table_Takes.calls k a0_0 a0_1 a0_2 _ _ l0_3 _ _ l1 t174 t175 _ ?side1 ?side2 ?side3 ?side4 A4.out).mono ?_); (case side1 => repeat (first | exact (Kd.C_below HR0_3.out HB.out) | (with_reducible refine Kd.C_alloc ?_ _) | (with_reducible refine Kd.C_drewN ?_ _) | (with_reducible refine Kd.C_drew ?_))); (case side2 => exact HC0_3.out); (case side3 => repeat (first | exact (Kd.C_below HR1.out HB.out) | (with_reducible refine Kd.C_alloc ?_ _) | (with_reducible refine Kd.C_drewN ?_ _) | (with_reducible refine Kd.C_drew ?_))); (case side4 => exact HC1.out); rintro e w51 ⟨rfl, hb⟩; refine ⟨_, rfl, ?_⟩; have n0_ := Aside0.mk (blk_below (g := gb171) (o := .cells #[.int .i64 a0_0, .int .i64 a0_1, .int .i64 a0_2, .slice A0_3 l0_3.length c0_3] 51 (0, 0)) (by (with_reducible repeat (first | refine blk_drewN ?_ _ | refine blk_drew ?_ | refine blk_alloc ?_ _)); exact BK171.out) hb); have n1_ := Aside0.mk (below_step (by repeat (first | (with_reducible first | exact HB.out | apply below_alloc | apply pw_below_drewN | apply below_drew1 | refine below_set ?_ GE171.out) | exact HB.out)) hb); clear BK171; clear HB; have BK171 := n0_; have HB := n1_; clear n0_ n1_; (try clear hb); (try clear hb2); (try clear hk); (try clear hi); have hcz52_0 : w51.cell? ⟨gb171, 0, none⟩ = some (.int .i64 a0_0) := (blk_cell BK171.out 0).trans rfl; have hcz52_1 : w51.cell? ⟨gb171, 1, none⟩ = some (.int .i64 a0_1) := (blk_cell BK171.out 1).trans rfl; have hcz52_2 : w51.cell? ⟨gb171, 2, none⟩ = some (.int .i64 a0_2) := (blk_cell BK171.out 2).trans rfl; have hcz52_3 : w51.cell? ⟨gb171, 3, none⟩ = some (.slice A0_3 l0_3.length c0_3) := (blk_cell BK171.out 3).trans rfl; have hfz52_0 := blk_frozen BK171.out 0; have hfz52_1 := blk_frozen BK171.out 1; have hfz52_2 := blk_frozen BK171.out 2; have hfz52_3 := blk_frozen BK171.out 3) | ((with_reducible refine gate_callee (f := 29) rfl ?_); refine goesL_ (some 23) rfl rfl Try.func29 (by kernel_rfl) rfl #[.agg #[.int .i64 a0_0, .int .i64 a0_1, .int .i64 a0_2, .slice A0_3 l0_3.length c0_3], .slice A1 l1.length c1] rfl (by (try simp only [List.map_toArray, List.map_cons, List.map_nil]); first | done | rfl | (simp only [List.length_drop, List.length_take]; rfl)) ?_; (with_reducible refine (coppicerkeep_grown.calls k a0_0 a0_1 a0_2 _ _ l0_3 _ _ l1 true _ ?side1 ?side2 ?side3 ?side4 A5.out).mono ?_); (case side1 => repeat (first | exact (Kd.C_below HR0_3.out HB.out) | (with_reducible refine Kd.C_alloc ?_ _) | (with_reducible refine Kd.C_drewN ?_ _) | (with_reducible refine Kd.C_drew ?_))); (case side2 => exact HC0_3.out); (case side3 => repeat (first | exact (Kd.C_below HR1.out HB.out) | (with_reducible refine Kd.C_alloc ?_ _) | (with_reducible refine Kd.C_drewN ?_ _) | (with_reducible refine Kd.C_drew ?_))); (case side4 => exact HC1.out); rintro e w53 ⟨rfl, hb⟩; refine ⟨_, rfl, ?_⟩; have n0_ := Aside0.mk (blk_below (g := gb171) (o := .cells #[.int .i64 a0_0, .int .i64 a0_1, .int .i64 a0_2, .slice A0_3 l0_3.length c0_3] 51 (0, 0)) (by (with_reducible repeat (first | refine blk_drewN ?_ _ | refine blk_drew ?_ | refine blk_alloc ?_ _)); exact BK171.out) hb); have n1_ := Aside0.mk (below_step (by repeat (first | (with_reducible first | exact HB.out | apply below_alloc | apply pw_below_drewN | apply below_drew1 | refine below_set ?_ GE171.out) | exact HB.out)) hb); clear BK171; clear HB; have BK171 := n0_; have HB := n1_; clear n0_ n1_; (try clear hb); (try clear hb2); (try clear hk); (try clear hi)))
      go_ret
      exact ⟨by first | rfl | (simp [errW_none, errW_some] <;> rfl) | (simp [*, errW_none, errW_some] <;> rfl), by repeat (first | (with_reducible first | exact HB.out | apply below_alloc | apply pw_below_drewN | apply below_drew1 | refine below_set ?_ GE171.out) | exact HB.out)⟩
  · replace c6 := Bool.eq_false_iff.mpr c6
    subst c6
    have H1 : (if t173 = 0 then (some false) else (some (t175 != 0))) = some r := by rw [if_neg (show ¬ (false = true) by decide)] at H; exact H
    clear H
    have H := H1
    clear H1
    by_cases c54 : t173 = 0
    · rw [if_pos c54] at H
      have c54b0 : (t173 == 0) = true := beq_iff_eq.mpr c54
      have c54b1 : (t173 != 0) = false := bne_eq_false_iff_eq.mpr c54
      clear c54
      obtain rfl := Option.some.inj H
      go_enter Try.func9, Try.ntmps9
      go_wp2_with (first | ((with_reducible refine gate_dst (N := 2) rfl ?_); refine box_event ?hg (N := 2) ?hd (cs := #[.int .i64 a0_0, .int .i64 a0_1, .int .i64 a0_2, .slice A0_3 l0_3.length c0_3]) (t := 51) ?hr ?_; (case hd => rfl); (case hg => rfl); (case hr => first | (go_simp; done) | (go_simp; rfl)); intro gb171 hg w55 hbox hb; have n0_ := Aside0.mk (below_step (by repeat (first | (with_reducible first | exact HB.out | apply below_alloc | apply pw_below_drewN | apply below_drew1) | exact HB.out)) hb); have n1_ := Aside0.mk (hbox); have n2_ := Aside0.mk ((by rw [hg]; exact (below_size (by repeat (first | (with_reducible first | exact HB.out | apply below_alloc | apply pw_below_drewN | apply below_drew1) | exact HB.out))) : w.heap.size ≤ gb171)); have n3_ := Aside0.mk ((by rw [hg]; exact (below_size (by repeat (first | (with_reducible first | exact HB.out | apply below_alloc | apply pw_below_drewN | apply below_drew1) | exact HB.out))) : w.heap.size ≤ gb171)); clear HB; have HB := n0_; have BK171 := n1_; have GW171 := n2_; have GE171 := n3_; clear n0_ n1_ n2_ n3_; clear hb hbox hg; have hcz56_0 : w55.cell? ⟨gb171, 0, none⟩ = some (.int .i64 a0_0) := (blk_cell BK171.out 0).trans rfl; have hcz56_1 : w55.cell? ⟨gb171, 1, none⟩ = some (.int .i64 a0_1) := (blk_cell BK171.out 1).trans rfl; have hcz56_2 : w55.cell? ⟨gb171, 2, none⟩ = some (.int .i64 a0_2) := (blk_cell BK171.out 2).trans rfl; have hcz56_3 : w55.cell? ⟨gb171, 3, none⟩ = some (.slice A0_3 l0_3.length c0_3) := (blk_cell BK171.out 3).trans rfl; have hfz56_0 := blk_frozen BK171.out 0; have hfz56_1 := blk_frozen BK171.out 1; have hfz56_2 := blk_frozen BK171.out 2; have hfz56_3 := blk_frozen BK171.out 3) | ((with_reducible refine gate_callee (f := 27) rfl ?_); refine goesL_ (some 12) rfl rfl Try.func27 (by kernel_rfl) rfl #[.agg #[.int .i64 a0_0, .int .i64 a0_1, .int .i64 a0_2, .slice A0_3 l0_3.length c0_3], .slice A1 l1.length c1] rfl (by (try simp only [List.map_toArray, List.map_cons, List.map_nil]); first | done | rfl | (simp only [List.length_drop, List.length_take]; rfl)) ?_; (with_reducible refine (table_Trees.calls k a0_0 a0_1 a0_2 _ _ l0_3 _ _ l1 t172 t173 _ ?side1 ?side2 ?side3 ?side4 A3.out).mono ?_); (case side1 => repeat (first | exact (Kd.C_below HR0_3.out HB.out) | (with_reducible refine Kd.C_alloc ?_ _) | (with_reducible refine Kd.C_drewN ?_ _) | (with_reducible refine Kd.C_drew ?_))); (case side2 => exact HC0_3.out); (case side3 => repeat (first | exact (Kd.C_below HR1.out HB.out) | (with_reducible refine Kd.C_alloc ?_ _) | (with_reducible refine Kd.C_drewN ?_ _) | (with_reducible refine Kd.C_drew ?_))); (case side4 => exact HC1.out); rintro e w57 ⟨rfl, hb⟩; refine ⟨_, rfl, ?_⟩; have n0_ := Aside0.mk (blk_below (g := gb171) (o := .cells #[.int .i64 a0_0, .int .i64 a0_1, .int .i64 a0_2, .slice A0_3 l0_3.length c0_3] 51 (0, 0)) (by (with_reducible repeat (first | refine blk_drewN ?_ _ | refine blk_drew ?_ | refine blk_alloc ?_ _)); exact BK171.out) hb); have n1_ := Aside0.mk (below_step (by repeat (first | (with_reducible first | exact HB.out | apply below_alloc | apply pw_below_drewN | apply below_drew1 | refine below_set ?_ GE171.out) | exact HB.out)) hb); clear BK171; clear HB; have BK171 := n0_; have HB := n1_; clear n0_ n1_; (try clear hb); (try clear hb2); (try clear hk); (try clear hi); have hcz58_0 : w57.cell? ⟨gb171, 0, none⟩ = some (.int .i64 a0_0) := (blk_cell BK171.out 0).trans rfl; have hcz58_1 : w57.cell? ⟨gb171, 1, none⟩ = some (.int .i64 a0_1) := (blk_cell BK171.out 1).trans rfl; have hcz58_2 : w57.cell? ⟨gb171, 2, none⟩ = some (.int .i64 a0_2) := (blk_cell BK171.out 2).trans rfl; have hcz58_3 : w57.cell? ⟨gb171, 3, none⟩ = some (.slice A0_3 l0_3.length c0_3) := (blk_cell BK171.out 3).trans rfl; have hfz58_0 := blk_frozen BK171.out 0; have hfz58_1 := blk_frozen BK171.out 1; have hfz58_2 := blk_frozen BK171.out 2; have hfz58_3 := blk_frozen BK171.out 3) | ((with_reducible refine gate_callee (f := 28) rfl ?_); refine goesL_ (some 18) rfl rfl Try.func28 (by kernel_rfl) rfl #[.agg #[.int .i64 a0_0, .int .i64 a0_1, .int .i64 a0_2, .slice A0_3 l0_3.length c0_3], .slice A1 l1.length c1] rfl (by (try simp only [List.map_toArray, List.map_cons, List.map_nil]); first | done | rfl | (simp only [List.length_drop, List.length_take]; rfl)) ?_; (with_reducible refine (table_Takes.calls k a0_0 a0_1 a0_2 _ _ l0_3 _ _ l1 t174 t175 _ ?side1 ?side2 ?side3 ?side4 A4.out).mono ?_); (case side1 => repeat (first | exact (Kd.C_below HR0_3.out HB.out) | (with_reducible refine Kd.C_alloc ?_ _) | (with_reducible refine Kd.C_drewN ?_ _) | (with_reducible refine Kd.C_drew ?_))); (case side2 => exact HC0_3.out); (case side3 => repeat (first | exact (Kd.C_below HR1.out HB.out) | (with_reducible refine Kd.C_alloc ?_ _) | (with_reducible refine Kd.C_drewN ?_ _) | (with_reducible refine Kd.C_drew ?_))); (case side4 => exact HC1.out); rintro e w59 ⟨rfl, hb⟩; refine ⟨_, rfl, ?_⟩; have n0_ := Aside0.mk (blk_below (g := gb171) (o := .cells #[.int .i64 a0_0, .int .i64 a0_1, .int .i64 a0_2, .slice A0_3 l0_3.length c0_3] 51 (0, 0)) (by (with_reducible repeat (first | refine blk_drewN ?_ _ | refine blk_drew ?_ | refine blk_alloc ?_ _)); exact BK171.out) hb); have n1_ := Aside0.mk (below_step (by repeat (first | (with_reducible first | exact HB.out | apply below_alloc | apply pw_below_drewN | apply below_drew1 | refine below_set ?_ GE171.out) | exact HB.out)) hb); clear BK171; clear HB; have BK171 := n0_; have HB := n1_; clear n0_ n1_; (try clear hb); (try clear hb2); (try clear hk); (try clear hi); have hcz60_0 : w59.cell? ⟨gb171, 0, none⟩ = some (.int .i64 a0_0) := (blk_cell BK171.out 0).trans rfl; have hcz60_1 : w59.cell? ⟨gb171, 1, none⟩ = some (.int .i64 a0_1) := (blk_cell BK171.out 1).trans rfl; have hcz60_2 : w59.cell? ⟨gb171, 2, none⟩ = some (.int .i64 a0_2) := (blk_cell BK171.out 2).trans rfl; have hcz60_3 : w59.cell? ⟨gb171, 3, none⟩ = some (.slice A0_3 l0_3.length c0_3) := (blk_cell BK171.out 3).trans rfl; have hfz60_0 := blk_frozen BK171.out 0; have hfz60_1 := blk_frozen BK171.out 1; have hfz60_2 := blk_frozen BK171.out 2; have hfz60_3 := blk_frozen BK171.out 3) | ((with_reducible refine gate_callee (f := 29) rfl ?_); refine goesL_ (some 23) rfl rfl Try.func29 (by kernel_rfl) rfl #[.agg #[.int .i64 a0_0, .int .i64 a0_1, .int .i64 a0_2, .slice A0_3 l0_3.length c0_3], .slice A1 l1.length c1] rfl (by (try simp only [List.map_toArray, List.map_cons, List.map_nil]); first | done | rfl | (simp only [List.length_drop, List.length_take]; rfl)) ?_; (with_reducible refine (coppicerkeep_grown.calls k a0_0 a0_1 a0_2 _ _ l0_3 _ _ l1 false _ ?side1 ?side2 ?side3 ?side4 A5.out).mono ?_); (case side1 => repeat (first | exact (Kd.C_below HR0_3.out HB.out) | (with_reducible refine Kd.C_alloc ?_ _) | (with_reducible refine Kd.C_drewN ?_ _) | (with_reducible refine Kd.C_drew ?_))); (case side2 => exact HC0_3.out); (case side3 => repeat (first | exact (Kd.C_below HR1.out HB.out) | (with_reducible refine Kd.C_alloc ?_ _) | (with_reducible refine Kd.C_drewN ?_ _) | (with_reducible refine Kd.C_drew ?_))); (case side4 => exact HC1.out); rintro e w61 ⟨rfl, hb⟩; refine ⟨_, rfl, ?_⟩; have n0_ := Aside0.mk (blk_below (g := gb171) (o := .cells #[.int .i64 a0_0, .int .i64 a0_1, .int .i64 a0_2, .slice A0_3 l0_3.length c0_3] 51 (0, 0)) (by (with_reducible repeat (first | refine blk_drewN ?_ _ | refine blk_drew ?_ | refine blk_alloc ?_ _)); exact BK171.out) hb); have n1_ := Aside0.mk (below_step (by repeat (first | (with_reducible first | exact HB.out | apply below_alloc | apply pw_below_drewN | apply below_drew1 | refine below_set ?_ GE171.out) | exact HB.out)) hb); clear BK171; clear HB; have BK171 := n0_; have HB := n1_; clear n0_ n1_; (try clear hb); (try clear hb2); (try clear hk); (try clear hi)))
      go_ret
      exact ⟨by first | rfl | (simp [errW_none, errW_some] <;> rfl) | (simp [*, errW_none, errW_some] <;> rfl), by repeat (first | (with_reducible first | exact HB.out | apply below_alloc | apply pw_below_drewN | apply below_drew1 | refine below_set ?_ GE171.out) | exact HB.out)⟩
    · rw [if_neg c54] at H
      have c54b0 : (t173 == 0) = false := beq_eq_false_iff_ne.mpr c54
      have c54b1 : (t173 != 0) = true := bne_iff_ne.mpr c54
      obtain rfl := Option.some.inj H
      go_enter Try.func9, Try.ntmps9
      go_wp2_with (first | ((with_reducible refine gate_dst (N := 2) rfl ?_); refine box_event ?hg (N := 2) ?hd (cs := #[.int .i64 a0_0, .int .i64 a0_1, .int .i64 a0_2, .slice A0_3 l0_3.length c0_3]) (t := 51) ?hr ?_; (case hd => rfl); (case hg => rfl); (case hr => first | (go_simp; done) | (go_simp; rfl)); intro gb171 hg w62 hbox hb; have n0_ := Aside0.mk (below_step (by repeat (first | (with_reducible first | exact HB.out | apply below_alloc | apply pw_below_drewN | apply below_drew1) | exact HB.out)) hb); have n1_ := Aside0.mk (hbox); have n2_ := Aside0.mk ((by rw [hg]; exact (below_size (by repeat (first | (with_reducible first | exact HB.out | apply below_alloc | apply pw_below_drewN | apply below_drew1) | exact HB.out))) : w.heap.size ≤ gb171)); have n3_ := Aside0.mk ((by rw [hg]; exact (below_size (by repeat (first | (with_reducible first | exact HB.out | apply below_alloc | apply pw_below_drewN | apply below_drew1) | exact HB.out))) : w.heap.size ≤ gb171)); clear HB; have HB := n0_; have BK171 := n1_; have GW171 := n2_; have GE171 := n3_; clear n0_ n1_ n2_ n3_; clear hb hbox hg; have hcz63_0 : w62.cell? ⟨gb171, 0, none⟩ = some (.int .i64 a0_0) := (blk_cell BK171.out 0).trans rfl; have hcz63_1 : w62.cell? ⟨gb171, 1, none⟩ = some (.int .i64 a0_1) := (blk_cell BK171.out 1).trans rfl; have hcz63_2 : w62.cell? ⟨gb171, 2, none⟩ = some (.int .i64 a0_2) := (blk_cell BK171.out 2).trans rfl; have hcz63_3 : w62.cell? ⟨gb171, 3, none⟩ = some (.slice A0_3 l0_3.length c0_3) := (blk_cell BK171.out 3).trans rfl; have hfz63_0 := blk_frozen BK171.out 0; have hfz63_1 := blk_frozen BK171.out 1; have hfz63_2 := blk_frozen BK171.out 2; have hfz63_3 := blk_frozen BK171.out 3) | ((with_reducible refine gate_callee (f := 27) rfl ?_); refine goesL_ (some 12) rfl rfl Try.func27 (by kernel_rfl) rfl #[.agg #[.int .i64 a0_0, .int .i64 a0_1, .int .i64 a0_2, .slice A0_3 l0_3.length c0_3], .slice A1 l1.length c1] rfl (by (try simp only [List.map_toArray, List.map_cons, List.map_nil]); first | done | rfl | (simp only [List.length_drop, List.length_take]; rfl)) ?_; (with_reducible refine (table_Trees.calls k a0_0 a0_1 a0_2 _ _ l0_3 _ _ l1 t172 t173 _ ?side1 ?side2 ?side3 ?side4 A3.out).mono ?_); (case side1 => repeat (first | exact (Kd.C_below HR0_3.out HB.out) | (with_reducible refine Kd.C_alloc ?_ _) | (with_reducible refine Kd.C_drewN ?_ _) | (with_reducible refine Kd.C_drew ?_))); (case side2 => exact HC0_3.out); (case side3 => repeat (first | exact (Kd.C_below HR1.out HB.out) | (with_reducible refine Kd.C_alloc ?_ _) | (with_reducible refine Kd.C_drewN ?_ _) | (with_reducible refine Kd.C_drew ?_))); (case side4 => exact HC1.out); rintro e w64 ⟨rfl, hb⟩; refine ⟨_, rfl, ?_⟩; have n0_ := Aside0.mk (blk_below (g := gb171) (o := .cells #[.int .i64 a0_0, .int .i64 a0_1, .int .i64 a0_2, .slice A0_3 l0_3.length c0_3] 51 (0, 0)) (by (with_reducible repeat (first | refine blk_drewN ?_ _ | refine blk_drew ?_ | refine blk_alloc ?_ _)); exact BK171.out) hb); have n1_ := Aside0.mk (below_step (by repeat (first | (with_reducible first | exact HB.out | apply below_alloc | apply pw_below_drewN | apply below_drew1 | refine below_set ?_ GE171.out) | exact HB.out)) hb); clear BK171; clear HB; have BK171 := n0_; have HB := n1_; clear n0_ n1_; (try clear hb); (try clear hb2); (try clear hk); (try clear hi); have hcz65_0 : w64.cell? ⟨gb171, 0, none⟩ = some (.int .i64 a0_0) := (blk_cell BK171.out 0).trans rfl; have hcz65_1 : w64.cell? ⟨gb171, 1, none⟩ = some (.int .i64 a0_1) := (blk_cell BK171.out 1).trans rfl; have hcz65_2 : w64.cell? ⟨gb171, 2, none⟩ = some (.int .i64 a0_2) := (blk_cell BK171.out 2).trans rfl; have hcz65_3 : w64.cell? ⟨gb171, 3, none⟩ = some (.slice A0_3 l0_3.length c0_3) := (blk_cell BK171.out 3).trans rfl; have hfz65_0 := blk_frozen BK171.out 0; have hfz65_1 := blk_frozen BK171.out 1; have hfz65_2 := blk_frozen BK171.out 2; have hfz65_3 := blk_frozen BK171.out 3) | ((with_reducible refine gate_callee (f := 28) rfl ?_); refine goesL_ (some 18) rfl rfl Try.func28 (by kernel_rfl) rfl #[.agg #[.int .i64 a0_0, .int .i64 a0_1, .int .i64 a0_2, .slice A0_3 l0_3.length c0_3], .slice A1 l1.length c1] rfl (by (try simp only [List.map_toArray, List.map_cons, List.map_nil]); first | done | rfl | (simp only [List.length_drop, List.length_take]; rfl)) ?_; (with_reducible refine (table_Takes.calls k a0_0 a0_1 a0_2 _ _ l0_3 _ _ l1 t174 t175 _ ?side1 ?side2 ?side3 ?side4 A4.out).mono ?_); (case side1 => repeat (first | exact (Kd.C_below HR0_3.out HB.out) | (with_reducible refine Kd.C_alloc ?_ _) | (with_reducible refine Kd.C_drewN ?_ _) | (with_reducible refine Kd.C_drew ?_))); (case side2 => exact HC0_3.out); (case side3 => repeat (first | exact (Kd.C_below HR1.out HB.out) | (with_reducible refine Kd.C_alloc ?_ _) | (with_reducible refine Kd.C_drewN ?_ _) | (with_reducible refine Kd.C_drew ?_))); (case side4 => exact HC1.out); rintro e w66 ⟨rfl, hb⟩; refine ⟨_, rfl, ?_⟩; have n0_ := Aside0.mk (blk_below (g := gb171) (o := .cells #[.int .i64 a0_0, .int .i64 a0_1, .int .i64 a0_2, .slice A0_3 l0_3.length c0_3] 51 (0, 0)) (by (with_reducible repeat (first | refine blk_drewN ?_ _ | refine blk_drew ?_ | refine blk_alloc ?_ _)); exact BK171.out) hb); have n1_ := Aside0.mk (below_step (by repeat (first | (with_reducible first | exact HB.out | apply below_alloc | apply pw_below_drewN | apply below_drew1 | refine below_set ?_ GE171.out) | exact HB.out)) hb); clear BK171; clear HB; have BK171 := n0_; have HB := n1_; clear n0_ n1_; (try clear hb); (try clear hb2); (try clear hk); (try clear hi); have hcz67_0 : w66.cell? ⟨gb171, 0, none⟩ = some (.int .i64 a0_0) := (blk_cell BK171.out 0).trans rfl; have hcz67_1 : w66.cell? ⟨gb171, 1, none⟩ = some (.int .i64 a0_1) := (blk_cell BK171.out 1).trans rfl; have hcz67_2 : w66.cell? ⟨gb171, 2, none⟩ = some (.int .i64 a0_2) := (blk_cell BK171.out 2).trans rfl; have hcz67_3 : w66.cell? ⟨gb171, 3, none⟩ = some (.slice A0_3 l0_3.length c0_3) := (blk_cell BK171.out 3).trans rfl; have hfz67_0 := blk_frozen BK171.out 0; have hfz67_1 := blk_frozen BK171.out 1; have hfz67_2 := blk_frozen BK171.out 2; have hfz67_3 := blk_frozen BK171.out 3) | ((with_reducible refine gate_callee (f := 29) rfl ?_); refine goesL_ (some 23) rfl rfl Try.func29 (by kernel_rfl) rfl #[.agg #[.int .i64 a0_0, .int .i64 a0_1, .int .i64 a0_2, .slice A0_3 l0_3.length c0_3], .slice A1 l1.length c1] rfl (by (try simp only [List.map_toArray, List.map_cons, List.map_nil]); first | done | rfl | (simp only [List.length_drop, List.length_take]; rfl)) ?_; (with_reducible refine (coppicerkeep_grown.calls k a0_0 a0_1 a0_2 _ _ l0_3 _ _ l1 false _ ?side1 ?side2 ?side3 ?side4 A5.out).mono ?_); (case side1 => repeat (first | exact (Kd.C_below HR0_3.out HB.out) | (with_reducible refine Kd.C_alloc ?_ _) | (with_reducible refine Kd.C_drewN ?_ _) | (with_reducible refine Kd.C_drew ?_))); (case side2 => exact HC0_3.out); (case side3 => repeat (first | exact (Kd.C_below HR1.out HB.out) | (with_reducible refine Kd.C_alloc ?_ _) | (with_reducible refine Kd.C_drewN ?_ _) | (with_reducible refine Kd.C_drew ?_))); (case side4 => exact HC1.out); rintro e w68 ⟨rfl, hb⟩; refine ⟨_, rfl, ?_⟩; have n0_ := Aside0.mk (blk_below (g := gb171) (o := .cells #[.int .i64 a0_0, .int .i64 a0_1, .int .i64 a0_2, .slice A0_3 l0_3.length c0_3] 51 (0, 0)) (by (with_reducible repeat (first | refine blk_drewN ?_ _ | refine blk_drew ?_ | refine blk_alloc ?_ _)); exact BK171.out) hb); have n1_ := Aside0.mk (below_step (by repeat (first | (with_reducible first | exact HB.out | apply below_alloc | apply pw_below_drewN | apply below_drew1 | refine below_set ?_ GE171.out) | exact HB.out)) hb); clear BK171; clear HB; have BK171 := n0_; have HB := n1_; clear n0_ n1_; (try clear hb); (try clear hb2); (try clear hk); (try clear hi)))
      go_ret
      exact ⟨by first | rfl | (simp [errW_none, errW_some] <;> rfl) | (simp [*, errW_none, errW_some] <;> rfl), by repeat (first | (with_reducible first | exact HB.out | apply below_alloc | apply pw_below_drewN | apply below_drew1 | refine below_set ?_ GE171.out) | exact HB.out)⟩

/-- THE ONE PURE STATEMENT of coppicerkeep_TableTree: yours. -/
def coppicerkeep_TableTree.Pure : Prop := ∀ (a0_0 : Int) (a0_1 : Int) (a0_2 : Int) (l0_3 : List (S126)) (l1 : List Int), ((Lit.int .i64 a0_0).wf = true) → ((Lit.int .i64 a0_1).wf = true) → ((Lit.int .i64 a0_2).wf = true) → (l0_3.length ≤ 9223372036854775807 ∧ l0_3.length * 32 ≤ 140737488351232 ∧ ∀ y_ ∈ l0_3, wf126 y_) → (l1.length ≤ 9223372036854775807 ∧ l1.length * 8 ≤ 140737488351232 ∧ ∀ y_ ∈ l1, (Lit.int .i64 y_).wf = true) → ∃ k, coppicerkeep_TableTree.f k a0_0 a0_1 a0_2 l0_3 l1 = some true
theorem coppicerkeep_TableTree.walk (P : coppicerkeep_TableTree.Pure) (a0_0 : Int) (a0_1 : Int) (a0_2 : Int) (A0_3 : Option Addr) (l0_3 : List (S126)) (c0_3 : Nat) (A1 : Option Addr) (l1 : List Int) (c1 : Nat) (w : World) (w0_0 : (Lit.int .i64 a0_0).wf = true) (w0_1 : (Lit.int .i64 a0_1).wf = true) (w0_2 : (Lit.int .i64 a0_2).wf = true) (hr0_3 : Kd.C k126 w A0_3 l0_3.length l0_3) (hc0_3 : l0_3.length ≤ c0_3) (w0_3 : l0_3.length ≤ 9223372036854775807 ∧ l0_3.length * 32 ≤ 140737488351232 ∧ ∀ y_ ∈ l0_3, wf126 y_) (hr1 : Kd.C (Kd.int .i64) w A1 l1.length l1) (hc1 : l1.length ≤ c1) (w1 : l1.length ≤ 9223372036854775807 ∧ l1.length * 8 ≤ 140737488351232 ∧ ∀ y_ ∈ l1, (Lit.int .i64 y_).wf = true) :
    Calls Try.prog 9 #[.agg #[.int .i64 a0_0, .int .i64 a0_1, .int .i64 a0_2, .slice A0_3 l0_3.length c0_3], .slice A1 l1.length c1] w fun e w' => e = .returned (.bool true) ∧ Below w.heap.size w w' := by
  obtain ⟨k, h⟩ := P a0_0 a0_1 a0_2 l0_3 l1 w0_0 w0_1 w0_2 w0_3 w1
  refine (coppicerkeep_TableTree.calls k _ _ _ _ _ _ _ _ _ true w hr0_3 hc0_3 hr1 hc1 h).mono ?_
  rintro e w' ⟨rfl, hd⟩
  exact ⟨rfl, hd⟩

end Go.Proofs.Ythgiiikjcfhgjaa.GT
