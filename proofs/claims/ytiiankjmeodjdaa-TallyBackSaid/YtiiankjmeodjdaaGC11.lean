-- Written by ext.py, a program of this session.
import Derived.Test.YtiiankjmeodjdaaGC0
import Derived.Test.YtiiankjmeodjdaaGC3
import Derived.Test.YtiiankjmeodjdaaGC4
import Derived.Test.YtiiankjmeodjdaaGC5
import Derived.Test.YtiiankjmeodjdaaGC8
import Derived.Test.YtiiankjmeodjdaaGC9
import Derived.Test.YtiiankjmeodjdaaGC10
namespace Go.Proofs.Ytiiankjmeodjdaa.GC
open Go.RowKit Go.Proofs.YtiiankjmeodjdaaW.PrintWords Go.Proofs.YtiiankjmeodjdaaW.PrintLast Go.Proofs.YtiiankjmeodjdaaW.PrintMore
attribute [local go_sem] max2_int min2_int max_two min_two max_three min_three max_four min_four cellIs_set   -- for this text's walks alone
set_option linter.unusedVariables false
set_option linter.unusedSimpArgs false

/-! ### coppicerkeep_TallyBack: function 12 -/
mutual
def coppicerkeep_TallyBack.j0 : Nat → Int → Int → Int → Int → List Int → Int → Bool → Int → Int → List (List Int) → Int → Int → Option (Bool)
  | 0, _, _, _, _, _, _, _, _, _, _, _, _ => none
  | k + 1, x1, x2, x7, x8, x9, x10, x43, x199000, x199001, x199002, x199003, x199004 => if x43 = true then (if x8 = 0 then (some false) else (some (x10 != 0))) else ((machine_Not.f k x199000 x199001 x199002 x199003 x199004).bind fun bt206 => ((tally_Many.f k bt206.1 bt206.2.1 bt206.2.2.1 bt206.2.2.2.1 bt206.2.2.2.2.1 x1).bind fun bt215 => (coppicerkeep_TallyBack.l0 k x1 x2 x7 x8 x9 x10 bt206.2.2.2.2.2 bt215.1 bt215.2 1 0 x199000 x199001 x199002 x199003 x199004)))
def coppicerkeep_TallyBack.l0 : Nat → Int → Int → Int → Int → List Int → Int → Int → Int → Int → Int → Int → Int → Int → List (List Int) → Int → Int → Option (Bool)
  | 0, _, _, _, _, _, _, _, _, _, _, _, _, _, _, _, _ => none
  | k + 1, x1, x2, x7, x8, x9, x10, x12, x13, x14, x15, x16, x199000, x199001, x199002, x199003, x199004 => if x16 < x1 then (coppicerkeep_TallyBack.l0 k x1 x2 x7 x8 x9 x10 x12 x13 x14 (wrap64 (x15 * x199001)) (wrap64 (x16 + 1)) x199000 x199001 x199002 x199003 x199004) else (if x8 = 0 then (if x12 = 0 then (if x14 = 0 then (if (wrap64 (x7 + x13)) = x15 then (if x7 < 0 then (coppicerkeep_TallyBack.j2 k x1 x2 x9 x10 true x199000 x199001 x199002 x199003 x199004) else (if x13 < 0 then (coppicerkeep_TallyBack.j2 k x1 x2 x9 x10 true x199000 x199001 x199002 x199003 x199004) else (if x2 ≥ 0 then (coppicerkeep_TallyBack.j2 k x1 x2 x9 x10 ((x10 == 0) != (decide (x2 < x7))) x199000 x199001 x199002 x199003 x199004) else (coppicerkeep_TallyBack.j2 k x1 x2 x9 x10 ((x10 == 0) != false) x199000 x199001 x199002 x199003 x199004)))) else (coppicerkeep_TallyBack.j2 k x1 x2 x9 x10 true x199000 x199001 x199002 x199003 x199004)) else (coppicerkeep_TallyBack.j2 k x1 x2 x9 x10 true x199000 x199001 x199002 x199003 x199004)) else (coppicerkeep_TallyBack.j2 k x1 x2 x9 x10 true x199000 x199001 x199002 x199003 x199004)) else (coppicerkeep_TallyBack.j2 k x1 x2 x9 x10 true x199000 x199001 x199002 x199003 x199004))
def coppicerkeep_TallyBack.j2 : Nat → Int → Int → List Int → Int → Bool → Int → Int → List (List Int) → Int → Int → Option (Bool)
  | 0, _, _, _, _, _, _, _, _, _, _ => none
  | k + 1, x1, x2, x9, x10, x106, x199000, x199001, x199002, x199003, x199004 => if x106 = true then (some false) else (if x10 = 0 then ((tally_Place.f k x199000 x199001 x199002 x199003 x199004 x9).bind fun bt217 => ((machine_Run.f k x199000 x199001 x199002 x199003 x199004 x9).bind fun bt219 => (if bt217.2 = 0 then (if bt219.2.2 = 0 then (if bt217.1 = x2 then (if bt219.2.1 = true then (some ((x9.length : Int) == x1)) else (some false)) else (some false)) else (some false)) else (some false)))) else (some ((x9.length : Int) == 0)))
end
def coppicerkeep_TallyBack.f (k : Nat) (a0_0 : Int) (a0_1 : Int) (l0_2 : List (List Int)) (a0_3 : Int) (a0_4 : Int) (a1 : Int) (a2 : Int) : Option (Bool) := (tally_Many.f k a0_0 a0_1 l0_2 a0_3 a0_4 a1).bind fun bt199 => ((tally_Word.f k a0_0 a0_1 l0_2 a0_3 a0_4 a1 a2).bind fun bt201 => ((coppicerref_MachineCheck.f k a0_0 a0_1 l0_2 a0_3 a0_4).bind fun t205 => (if t205 = 0 then (if a1 < 0 then (coppicerkeep_TallyBack.j0 k a1 a2 bt199.1 bt199.2 bt201.1 bt201.2 true a0_0 a0_1 l0_2 a0_3 a0_4) else (coppicerkeep_TallyBack.j0 k a1 a2 bt199.1 bt199.2 bt201.1 bt201.2 (decide (a1 > 12)) a0_0 a0_1 l0_2 a0_3 a0_4)) else (coppicerkeep_TallyBack.j0 k a1 a2 bt199.1 bt199.2 bt201.1 bt201.2 true a0_0 a0_1 l0_2 a0_3 a0_4))))
theorem coppicerkeep_TallyBack.mono_l : ∀ k, (∀ y0 y1 y2 y3 y4 y5 y6 y7 y8 y9 y10 y11, LeO (coppicerkeep_TallyBack.j0 k y0 y1 y2 y3 y4 y5 y6 y7 y8 y9 y10 y11) (coppicerkeep_TallyBack.j0 (k + 1) y0 y1 y2 y3 y4 y5 y6 y7 y8 y9 y10 y11)) ∧ (∀ y0 y1 y2 y3 y4 y5 y6 y7 y8 y9 y10 y11 y12 y13 y14 y15, LeO (coppicerkeep_TallyBack.l0 k y0 y1 y2 y3 y4 y5 y6 y7 y8 y9 y10 y11 y12 y13 y14 y15) (coppicerkeep_TallyBack.l0 (k + 1) y0 y1 y2 y3 y4 y5 y6 y7 y8 y9 y10 y11 y12 y13 y14 y15)) ∧ (∀ y0 y1 y2 y3 y4 y5 y6 y7 y8 y9, LeO (coppicerkeep_TallyBack.j2 k y0 y1 y2 y3 y4 y5 y6 y7 y8 y9) (coppicerkeep_TallyBack.j2 (k + 1) y0 y1 y2 y3 y4 y5 y6 y7 y8 y9))
  | 0 => ⟨fun _ _ _ _ _ _ _ _ _ _ _ _ r h => by simp [coppicerkeep_TallyBack.j0] at h, fun _ _ _ _ _ _ _ _ _ _ _ _ _ _ _ _ r h => by simp [coppicerkeep_TallyBack.l0] at h, fun _ _ _ _ _ _ _ _ _ _ r h => by simp [coppicerkeep_TallyBack.j2] at h⟩
  | k + 1 => by
    obtain ⟨ih0, ih1, ih2⟩ := coppicerkeep_TallyBack.mono_l k
    refine ⟨?_, ?_, ?_⟩
    · intro y0 y1 y2 y3 y4 y5 y6 y7 y8 y9 y10 y11
      unfold coppicerkeep_TallyBack.j0
      repeat' first
      | (with_reducible exact ih0 _ _ _ _ _ _ _ _ _ _ _ _)
      | (with_reducible exact ih1 _ _ _ _ _ _ _ _ _ _ _ _ _ _ _ _)
      | (with_reducible exact ih2 _ _ _ _ _ _ _ _ _ _)
      | (with_reducible exact coppicerref_MachineCheck.mono _ _ _ _ _ _)
      | (with_reducible exact machine_Not.mono _ _ _ _ _ _)
      | (with_reducible exact machine_Run.mono _ _ _ _ _ _ _)
      | (with_reducible exact tally_Many.mono _ _ _ _ _ _ _)
      | (with_reducible exact tally_Place.mono _ _ _ _ _ _ _)
      | (with_reducible exact tally_Word.mono _ _ _ _ _ _ _ _)
      | (with_reducible exact LeO.refl _)
      | (with_reducible exact LeO.none _)
      | (with_reducible refine LeO.ite ?_ ?_)
      | (with_reducible refine LeO.bind ?_ (fun _ => ?_))
      | exact ih0 _ _ _ _ _ _ _ _ _ _ _ _
      | exact ih1 _ _ _ _ _ _ _ _ _ _ _ _ _ _ _ _
      | exact ih2 _ _ _ _ _ _ _ _ _ _
      | exact coppicerref_MachineCheck.mono _ _ _ _ _ _
      | exact machine_Not.mono _ _ _ _ _ _
      | exact machine_Run.mono _ _ _ _ _ _ _
      | exact tally_Many.mono _ _ _ _ _ _ _
      | exact tally_Place.mono _ _ _ _ _ _ _
      | exact tally_Word.mono _ _ _ _ _ _ _ _
      | exact LeO.none _
      | refine LeO.ite ?_ ?_
      | refine LeO.bind ?_ (fun _ => ?_)
    · intro y0 y1 y2 y3 y4 y5 y6 y7 y8 y9 y10 y11 y12 y13 y14 y15
      unfold coppicerkeep_TallyBack.l0
      repeat' first
      | (with_reducible exact ih0 _ _ _ _ _ _ _ _ _ _ _ _)
      | (with_reducible exact ih1 _ _ _ _ _ _ _ _ _ _ _ _ _ _ _ _)
      | (with_reducible exact ih2 _ _ _ _ _ _ _ _ _ _)
      | (with_reducible exact coppicerref_MachineCheck.mono _ _ _ _ _ _)
      | (with_reducible exact machine_Not.mono _ _ _ _ _ _)
      | (with_reducible exact machine_Run.mono _ _ _ _ _ _ _)
      | (with_reducible exact tally_Many.mono _ _ _ _ _ _ _)
      | (with_reducible exact tally_Place.mono _ _ _ _ _ _ _)
      | (with_reducible exact tally_Word.mono _ _ _ _ _ _ _ _)
      | (with_reducible exact LeO.refl _)
      | (with_reducible exact LeO.none _)
      | (with_reducible refine LeO.ite ?_ ?_)
      | (with_reducible refine LeO.bind ?_ (fun _ => ?_))
      | exact ih0 _ _ _ _ _ _ _ _ _ _ _ _
      | exact ih1 _ _ _ _ _ _ _ _ _ _ _ _ _ _ _ _
      | exact ih2 _ _ _ _ _ _ _ _ _ _
      | exact coppicerref_MachineCheck.mono _ _ _ _ _ _
      | exact machine_Not.mono _ _ _ _ _ _
      | exact machine_Run.mono _ _ _ _ _ _ _
      | exact tally_Many.mono _ _ _ _ _ _ _
      | exact tally_Place.mono _ _ _ _ _ _ _
      | exact tally_Word.mono _ _ _ _ _ _ _ _
      | exact LeO.none _
      | refine LeO.ite ?_ ?_
      | refine LeO.bind ?_ (fun _ => ?_)
    · intro y0 y1 y2 y3 y4 y5 y6 y7 y8 y9
      unfold coppicerkeep_TallyBack.j2
      repeat' first
      | (with_reducible exact ih0 _ _ _ _ _ _ _ _ _ _ _ _)
      | (with_reducible exact ih1 _ _ _ _ _ _ _ _ _ _ _ _ _ _ _ _)
      | (with_reducible exact ih2 _ _ _ _ _ _ _ _ _ _)
      | (with_reducible exact coppicerref_MachineCheck.mono _ _ _ _ _ _)
      | (with_reducible exact machine_Not.mono _ _ _ _ _ _)
      | (with_reducible exact machine_Run.mono _ _ _ _ _ _ _)
      | (with_reducible exact tally_Many.mono _ _ _ _ _ _ _)
      | (with_reducible exact tally_Place.mono _ _ _ _ _ _ _)
      | (with_reducible exact tally_Word.mono _ _ _ _ _ _ _ _)
      | (with_reducible exact LeO.refl _)
      | (with_reducible exact LeO.none _)
      | (with_reducible refine LeO.ite ?_ ?_)
      | (with_reducible refine LeO.bind ?_ (fun _ => ?_))
      | exact ih0 _ _ _ _ _ _ _ _ _ _ _ _
      | exact ih1 _ _ _ _ _ _ _ _ _ _ _ _ _ _ _ _
      | exact ih2 _ _ _ _ _ _ _ _ _ _
      | exact coppicerref_MachineCheck.mono _ _ _ _ _ _
      | exact machine_Not.mono _ _ _ _ _ _
      | exact machine_Run.mono _ _ _ _ _ _ _
      | exact tally_Many.mono _ _ _ _ _ _ _
      | exact tally_Place.mono _ _ _ _ _ _ _
      | exact tally_Word.mono _ _ _ _ _ _ _ _
      | exact LeO.none _
      | refine LeO.ite ?_ ?_
      | refine LeO.bind ?_ (fun _ => ?_)
theorem coppicerkeep_TallyBack.mono : ∀ a0 a1 a2 a3 a4 a5 a6 k, LeO (coppicerkeep_TallyBack.f k a0 a1 a2 a3 a4 a5 a6) (coppicerkeep_TallyBack.f (k + 1) a0 a1 a2 a3 a4 a5 a6) := by
  intro a0 a1 a2 a3 a4 a5 a6 k
  obtain ⟨ih0, ih1, ih2⟩ := coppicerkeep_TallyBack.mono_l k
  unfold coppicerkeep_TallyBack.f
  repeat' first
      | (with_reducible exact ih0 _ _ _ _ _ _ _ _ _ _ _ _)
      | (with_reducible exact ih1 _ _ _ _ _ _ _ _ _ _ _ _ _ _ _ _)
      | (with_reducible exact ih2 _ _ _ _ _ _ _ _ _ _)
      | (with_reducible exact coppicerref_MachineCheck.mono _ _ _ _ _ _)
      | (with_reducible exact machine_Not.mono _ _ _ _ _ _)
      | (with_reducible exact machine_Run.mono _ _ _ _ _ _ _)
      | (with_reducible exact tally_Many.mono _ _ _ _ _ _ _)
      | (with_reducible exact tally_Place.mono _ _ _ _ _ _ _)
      | (with_reducible exact tally_Word.mono _ _ _ _ _ _ _ _)
      | (with_reducible exact LeO.refl _)
      | (with_reducible exact LeO.none _)
      | (with_reducible refine LeO.ite ?_ ?_)
      | (with_reducible refine LeO.bind ?_ (fun _ => ?_))
      | exact ih0 _ _ _ _ _ _ _ _ _ _ _ _
      | exact ih1 _ _ _ _ _ _ _ _ _ _ _ _ _ _ _ _
      | exact ih2 _ _ _ _ _ _ _ _ _ _
      | exact coppicerref_MachineCheck.mono _ _ _ _ _ _
      | exact machine_Not.mono _ _ _ _ _ _
      | exact machine_Run.mono _ _ _ _ _ _ _
      | exact tally_Many.mono _ _ _ _ _ _ _
      | exact tally_Place.mono _ _ _ _ _ _ _
      | exact tally_Word.mono _ _ _ _ _ _ _ _
      | exact LeO.none _
      | refine LeO.ite ?_ ?_
      | refine LeO.bind ?_ (fun _ => ?_)
set_option maxHeartbeats 8000000 in
set_option maxRecDepth 100000 in
theorem coppicerkeep_TallyBack.calls (k : Nat) (a0_0 : Int) (a0_1 : Int) (A0_2 : Option Addr) (c0_2 : Nat) (l0_2 : List (List Int)) (a0_3 : Int) (a0_4 : Int) (a1 : Int) (a2 : Int) (r : Bool) (w : World) (hr0_2 : Kd.C (Kd.slice 3 (Kd.int .i64)) w A0_2 l0_2.length l0_2) (hc0_2 : l0_2.length ≤ c0_2) (h : coppicerkeep_TallyBack.f k a0_0 a0_1 l0_2 a0_3 a0_4 a1 a2 = some r) :
    Calls Try.prog 12 #[.agg #[.int .i64 a0_0, .int .i64 a0_1, .slice A0_2 l0_2.length c0_2, .int .i64 a0_3, .int .u32 a0_4], .int .i64 a1, .int .i64 a2] w fun e w' => e = .returned (.bool r) ∧ Below w.heap.size w w' := by
  have hu37 := Try.underlying37
  have HR0_2 := Aside0.mk hr0_2
  have HC0_2 := Aside0.mk hc0_2
  clear hr0_2 hc0_2
  have HB := Aside0.mk (Below.refl w.heap.size w)
  have H : ((tally_Many.f k a0_0 a0_1 l0_2 a0_3 a0_4 a1).bind fun bt199 => ((tally_Word.f k a0_0 a0_1 l0_2 a0_3 a0_4 a1 a2).bind fun bt201 => ((coppicerref_MachineCheck.f k a0_0 a0_1 l0_2 a0_3 a0_4).bind fun t205 => (if t205 = 0 then (if a1 < 0 then (coppicerkeep_TallyBack.j0 k a1 a2 bt199.1 bt199.2 bt201.1 bt201.2 true a0_0 a0_1 l0_2 a0_3 a0_4) else (coppicerkeep_TallyBack.j0 k a1 a2 bt199.1 bt199.2 bt201.1 bt201.2 (decide (a1 > 12)) a0_0 a0_1 l0_2 a0_3 a0_4)) else (coppicerkeep_TallyBack.j0 k a1 a2 bt199.1 bt199.2 bt201.1 bt201.2 true a0_0 a0_1 l0_2 a0_3 a0_4))))) = some r := h
  clear h
  replace H := Option.bind_eq_some_iff.mp H
  obtain ⟨⟨t199, t200⟩, A40, H⟩ := H
  replace H : ((tally_Word.f k a0_0 a0_1 l0_2 a0_3 a0_4 a1 a2).bind fun bt201 => ((coppicerref_MachineCheck.f k a0_0 a0_1 l0_2 a0_3 a0_4).bind fun t205 => (if t205 = 0 then (if a1 < 0 then (coppicerkeep_TallyBack.j0 k a1 a2 t199 t200 bt201.1 bt201.2 true a0_0 a0_1 l0_2 a0_3 a0_4) else (coppicerkeep_TallyBack.j0 k a1 a2 t199 t200 bt201.1 bt201.2 (decide (a1 > 12)) a0_0 a0_1 l0_2 a0_3 a0_4)) else (coppicerkeep_TallyBack.j0 k a1 a2 t199 t200 bt201.1 bt201.2 true a0_0 a0_1 l0_2 a0_3 a0_4)))) = some r := H
  have A4 := Aside0.mk A40
  clear A40
  replace H := Option.bind_eq_some_iff.mp H
  obtain ⟨⟨t201, t204⟩, A50, H⟩ := H
  replace H : ((coppicerref_MachineCheck.f k a0_0 a0_1 l0_2 a0_3 a0_4).bind fun t205 => (if t205 = 0 then (if a1 < 0 then (coppicerkeep_TallyBack.j0 k a1 a2 t199 t200 t201 t204 true a0_0 a0_1 l0_2 a0_3 a0_4) else (coppicerkeep_TallyBack.j0 k a1 a2 t199 t200 t201 t204 (decide (a1 > 12)) a0_0 a0_1 l0_2 a0_3 a0_4)) else (coppicerkeep_TallyBack.j0 k a1 a2 t199 t200 t201 t204 true a0_0 a0_1 l0_2 a0_3 a0_4))) = some r := H
  have A5 := Aside0.mk A50
  clear A50
  have HC6 := Aside0.mk H
  clear H
  go_enter Try.func12, Try.ntmps12
  go_upto_region 3 with (first | ((with_reducible refine gate_dst (N := 3) rfl ?_); (try (refine gate_guard (by rfl) ?_; dsimp only)); refine box_event ?hg (N := 3) ?hd (cs := #[.int .i64 a0_0, .int .i64 a0_1, .slice A0_2 l0_2.length c0_2, .int .i64 a0_3, .int .u32 a0_4]) (t := 37) ?hr ?_; (case hd => rfl); (case hg => rfl); (case hr => first | (go_simp; done) | (go_simp; rfl)); intro gb198 hg w7 hbox hb; have n0_ := Aside0.mk (below_step (by repeat (first | (with_reducible first | exact HB.out | apply below_alloc | apply pw_below_drewN | apply below_drew1) | exact HB.out)) hb); have n1_ := Aside0.mk (hbox); have n2_ := Aside0.mk ((by rw [hg]; exact (below_size (by repeat (first | (with_reducible first | exact HB.out | apply below_alloc | apply pw_below_drewN | apply below_drew1) | exact HB.out))) : w.heap.size ≤ gb198)); have n3_ := Aside0.mk ((by rw [hg]; exact (below_size (by repeat (first | (with_reducible first | exact HB.out | apply below_alloc | apply pw_below_drewN | apply below_drew1) | exact HB.out))) : w.heap.size ≤ gb198)); clear HB; have HB := n0_; have BK198 := n1_; have GW198 := n2_; have GE198 := n3_; clear n0_ n1_ n2_ n3_; clear hb hbox hg; have hcz8_0 : w7.cell? ⟨gb198, 0, none⟩ = some (.int .i64 a0_0) := (blk_cell BK198.out 0).trans rfl; have hcz8_1 : w7.cell? ⟨gb198, 1, none⟩ = some (.int .i64 a0_1) := (blk_cell BK198.out 1).trans rfl; have hcz8_2 : w7.cell? ⟨gb198, 2, none⟩ = some (.slice A0_2 l0_2.length c0_2) := (blk_cell BK198.out 2).trans rfl; have hcz8_3 : w7.cell? ⟨gb198, 3, none⟩ = some (.int .i64 a0_3) := (blk_cell BK198.out 3).trans rfl; have hcz8_4 : w7.cell? ⟨gb198, 4, none⟩ = some (.int .u32 a0_4) := (blk_cell BK198.out 4).trans rfl; have hfz8_0 := blk_frozen BK198.out 0; have hfz8_1 := blk_frozen BK198.out 1; have hfz8_2 := blk_frozen BK198.out 2; have hfz8_3 := blk_frozen BK198.out 3; have hfz8_4 := blk_frozen BK198.out 4) | ((with_reducible refine gate_callee (f := 33) rfl ?_); refine goesL_ (some 23) rfl rfl Try.func33 (by kernel_rfl) rfl #[.agg #[.int .i64 a0_0, .int .i64 a0_1, .slice A0_2 l0_2.length c0_2, .int .i64 a0_3, .int .u32 a0_4], .int .i64 a1] rfl (by (try simp only [List.map_toArray, List.map_cons, List.map_nil]); first | done | rfl | (simp only [List.length_drop, List.length_take]; rfl)) ?_; (with_reducible refine (tally_Many.calls k a0_0 a0_1 _ _ l0_2 a0_3 a0_4 a1 t199 t200 _ ?side1 ?side2 A4.out).mono ?_); (case side1 => repeat (first | exact (Kd.C_below HR0_2.out HB.out) | (with_reducible refine Kd.C_alloc ?_ _) | (with_reducible refine Kd.C_drewN ?_ _) | (with_reducible refine Kd.C_drew ?_))); (case side2 => exact HC0_2.out); rintro e w9 ⟨rfl, hb⟩; refine ⟨_, rfl, ?_⟩; have n0_ := Aside0.mk (blk_below (g := gb198) (o := .cells #[.int .i64 a0_0, .int .i64 a0_1, .slice A0_2 l0_2.length c0_2, .int .i64 a0_3, .int .u32 a0_4] 37 (0, 0)) (by (with_reducible repeat (first | refine blk_drewN ?_ _ | refine blk_drew ?_ | refine blk_alloc ?_ _)); exact BK198.out) hb); have n1_ := Aside0.mk (below_step (by repeat (first | (with_reducible first | exact HB.out | apply below_alloc | apply pw_below_drewN | apply below_drew1 | refine below_set ?_ GE198.out) | exact HB.out)) hb); clear BK198; clear HB; have BK198 := n0_; have HB := n1_; clear n0_ n1_; (try clear hb); (try clear hb2); (try clear hk); (try clear hi); have hcz10_0 : w9.cell? ⟨gb198, 0, none⟩ = some (.int .i64 a0_0) := (blk_cell BK198.out 0).trans rfl; have hcz10_1 : w9.cell? ⟨gb198, 1, none⟩ = some (.int .i64 a0_1) := (blk_cell BK198.out 1).trans rfl; have hcz10_2 : w9.cell? ⟨gb198, 2, none⟩ = some (.slice A0_2 l0_2.length c0_2) := (blk_cell BK198.out 2).trans rfl; have hcz10_3 : w9.cell? ⟨gb198, 3, none⟩ = some (.int .i64 a0_3) := (blk_cell BK198.out 3).trans rfl; have hcz10_4 : w9.cell? ⟨gb198, 4, none⟩ = some (.int .u32 a0_4) := (blk_cell BK198.out 4).trans rfl; have hfz10_0 := blk_frozen BK198.out 0; have hfz10_1 := blk_frozen BK198.out 1; have hfz10_2 := blk_frozen BK198.out 2; have hfz10_3 := blk_frozen BK198.out 3; have hfz10_4 := blk_frozen BK198.out 4) | ((with_reducible refine gate_callee (f := 34) rfl ?_); refine goesL_ (some 30) rfl rfl Try.func34 (by kernel_rfl) rfl #[.agg #[.int .i64 a0_0, .int .i64 a0_1, .slice A0_2 l0_2.length c0_2, .int .i64 a0_3, .int .u32 a0_4], .int .i64 a1, .int .i64 a2] rfl (by (try simp only [List.map_toArray, List.map_cons, List.map_nil]); first | done | rfl | (simp only [List.length_drop, List.length_take]; rfl)) ?_; (with_reducible refine (tally_Word.calls k a0_0 a0_1 _ _ l0_2 a0_3 a0_4 a1 a2 t201 t204 _ ?side1 ?side2 A5.out).mono ?_); (case side1 => repeat (first | exact (Kd.C_below HR0_2.out HB.out) | (with_reducible refine Kd.C_alloc ?_ _) | (with_reducible refine Kd.C_drewN ?_ _) | (with_reducible refine Kd.C_drew ?_))); (case side2 => exact HC0_2.out); rintro e w11 ⟨v202, rfl, ho0, hb⟩; refine ⟨_, rfl, ?_⟩; have n0_ := Aside0.mk (Kd.R_lower ho0 (below_size (by repeat (first | (with_reducible first | exact HB.out | apply below_alloc | apply pw_below_drewN | apply below_drew1 | refine below_set ?_ GE198.out) | exact HB.out)))); have n1_ := Aside0.mk (blk_below (g := gb198) (o := .cells #[.int .i64 a0_0, .int .i64 a0_1, .slice A0_2 l0_2.length c0_2, .int .i64 a0_3, .int .u32 a0_4] 37 (0, 0)) (by (with_reducible repeat (first | refine blk_drewN ?_ _ | refine blk_drew ?_ | refine blk_alloc ?_ _)); exact BK198.out) hb); have n2_ := Aside0.mk (below_step (by repeat (first | (with_reducible first | exact HB.out | apply below_alloc | apply pw_below_drewN | apply below_drew1 | refine below_set ?_ GE198.out) | exact HB.out)) hb); clear BK198; clear HB; have HO203 := n0_; have BK198 := n1_; have HB := n2_; clear n0_ n1_ n2_; (try clear hb); (try clear hb2); (try clear hk); (try clear hi); (try clear ho0)))
  (try simp only [Act.put, List.setIfInBounds_toArray, List.set_cons_zero, List.set_cons_succ])
  go_cut [43] (fun v43 wc => ∃ (kq : Nat) (x43_5 : Bool), v43 = .bool x43_5 ∧ Aside0 (coppicerkeep_TallyBack.j0 kq a1 a2 t199 t200 t201 t204 x43_5 a0_0 a0_1 l0_2 a0_3 a0_4 = some r) ∧ Aside0 (kq ≤ k) ∧ Aside0 (Kd.R (Kd.int .i64) 3 wc w.heap.size (fun _ => True) v202 t201) ∧ Aside0 (wc.heap[gb198]? = some (.cells #[.int .i64 a0_0, .int .i64 a0_1, (.slice A0_2 l0_2.length c0_2), .int .i64 a0_3, .int .u32 a0_4] 37 (0, 0))) ∧ Aside0 (Below w.heap.size w wc))
  case first =>
    have H := HC6.out
    clear HC6
    replace H := Option.bind_eq_some_iff.mp H
    obtain ⟨t205, A120, H⟩ := H
    replace H : (if t205 = 0 then (if a1 < 0 then (coppicerkeep_TallyBack.j0 k a1 a2 t199 t200 t201 t204 true a0_0 a0_1 l0_2 a0_3 a0_4) else (coppicerkeep_TallyBack.j0 k a1 a2 t199 t200 t201 t204 (decide (a1 > 12)) a0_0 a0_1 l0_2 a0_3 a0_4)) else (coppicerkeep_TallyBack.j0 k a1 a2 t199 t200 t201 t204 true a0_0 a0_1 l0_2 a0_3 a0_4)) = some r := H
    have A12 := Aside0.mk A120
    clear A120
    by_cases c13 : t205 = 0
    · rw [if_pos c13] at H
      have c13b0 : (t205 == 0) = true := beq_iff_eq.mpr c13
      have c13b1 : (t205 != 0) = false := bne_eq_false_iff_eq.mpr c13
      clear c13
      (first | rw [c13b0] | (simp only [i64_w, i32_w]; rw [c13b0]) | skip)
      by_cases c14 : a1 < 0
      · rw [if_pos c14] at H
        have c14b0 : decide (a1 < 0) = true := decide_eq_true c14
        clear c14
        have H' := Aside0.mk H
        clear H
        have hcz15_0 : w11.cell? ⟨gb198, 0, none⟩ = some (.int .i64 a0_0) := (blk_cell BK198.out 0).trans rfl
        have hcz15_1 : w11.cell? ⟨gb198, 1, none⟩ = some (.int .i64 a0_1) := (blk_cell BK198.out 1).trans rfl
        have hcz15_2 : w11.cell? ⟨gb198, 2, none⟩ = some (.slice A0_2 l0_2.length c0_2) := (blk_cell BK198.out 2).trans rfl
        have hcz15_3 : w11.cell? ⟨gb198, 3, none⟩ = some (.int .i64 a0_3) := (blk_cell BK198.out 3).trans rfl
        have hcz15_4 : w11.cell? ⟨gb198, 4, none⟩ = some (.int .u32 a0_4) := (blk_cell BK198.out 4).trans rfl
        have hfz15_0 := blk_frozen BK198.out 0
        have hfz15_1 := blk_frozen BK198.out 1
        have hfz15_2 := blk_frozen BK198.out 2
        have hfz15_3 := blk_frozen BK198.out 3
        have hfz15_4 := blk_frozen BK198.out 4
        go_wp2_with (first | ((with_reducible refine gate_callee (f := 31) rfl ?_); refine goesL_ (some 34) rfl rfl Try.func31 (by kernel_rfl) rfl #[.agg #[.int .i64 a0_0, .int .i64 a0_1, .slice A0_2 l0_2.length c0_2, .int .i64 a0_3, .int .u32 a0_4]] rfl (by (try simp only [List.map_toArray, List.map_cons, List.map_nil]); first | done | rfl | (simp only [List.length_drop, List.length_take]; rfl)) ?_; (with_reducible refine (coppicerref_MachineCheck.calls k a0_0 a0_1 _ _ l0_2 a0_3 a0_4 t205 _ ?side1 ?side2 A12.out).mono ?_); (case side1 => repeat (first | exact (Kd.C_below HR0_2.out HB.out) | (with_reducible refine Kd.C_alloc ?_ _) | (with_reducible refine Kd.C_drewN ?_ _) | (with_reducible refine Kd.C_drew ?_))); (case side2 => exact HC0_2.out); rintro e w16 ⟨rfl, hb⟩; refine ⟨_, rfl, ?_⟩; have n0_ := Aside0.mk (Kd.R_below (by (with_reducible repeat (first | apply Kd.R_alloc | apply Kd.R_drewN | apply Kd.R_drew)); exact HO203.out) hb); have n1_ := Aside0.mk (blk_below (g := gb198) (o := .cells #[.int .i64 a0_0, .int .i64 a0_1, .slice A0_2 l0_2.length c0_2, .int .i64 a0_3, .int .u32 a0_4] 37 (0, 0)) (by (with_reducible repeat (first | refine blk_drewN ?_ _ | refine blk_drew ?_ | refine blk_alloc ?_ _)); exact BK198.out) hb); have n2_ := Aside0.mk (below_step (by repeat (first | (with_reducible first | exact HB.out | apply below_alloc | apply pw_below_drewN | apply below_drew1 | refine below_set ?_ GE198.out) | exact HB.out)) hb); clear HO203; clear BK198; clear HB; have HO203 := n0_; have BK198 := n1_; have HB := n2_; clear n0_ n1_ n2_; (try clear hb); (try clear hb2); (try clear hk); (try clear hi)))
        go_meet
        case rel => exact ⟨_, (true), (by first | rfl | (simp; done) | (simp [*]; done)), H', ⟨by first | omega | exact Nat.le_refl _⟩, ⟨by (with_reducible repeat (first | apply Kd.R_alloc | apply Kd.R_drewN | apply Kd.R_drew)); exact HO203.out⟩, ⟨by (with_reducible repeat (first | refine blk_drewN ?_ _ | refine blk_drew ?_ | refine blk_alloc ?_ _)); exact BK198.out⟩, ⟨by repeat (first | (with_reducible first | exact HB.out | apply below_alloc | apply pw_below_drewN | apply below_drew1 | refine below_set ?_ GE198.out) | exact HB.out)⟩⟩
      · rw [if_neg c14] at H
        have c14b0 : decide (a1 < 0) = false := decide_eq_false c14
        clear c14
        have H' := Aside0.mk H
        clear H
        have hcz17_0 : w11.cell? ⟨gb198, 0, none⟩ = some (.int .i64 a0_0) := (blk_cell BK198.out 0).trans rfl
        have hcz17_1 : w11.cell? ⟨gb198, 1, none⟩ = some (.int .i64 a0_1) := (blk_cell BK198.out 1).trans rfl
        have hcz17_2 : w11.cell? ⟨gb198, 2, none⟩ = some (.slice A0_2 l0_2.length c0_2) := (blk_cell BK198.out 2).trans rfl
        have hcz17_3 : w11.cell? ⟨gb198, 3, none⟩ = some (.int .i64 a0_3) := (blk_cell BK198.out 3).trans rfl
        have hcz17_4 : w11.cell? ⟨gb198, 4, none⟩ = some (.int .u32 a0_4) := (blk_cell BK198.out 4).trans rfl
        have hfz17_0 := blk_frozen BK198.out 0
        have hfz17_1 := blk_frozen BK198.out 1
        have hfz17_2 := blk_frozen BK198.out 2
        have hfz17_3 := blk_frozen BK198.out 3
        have hfz17_4 := blk_frozen BK198.out 4
        go_wp2_with (first | ((with_reducible refine gate_callee (f := 31) rfl ?_); refine goesL_ (some 34) rfl rfl Try.func31 (by kernel_rfl) rfl #[.agg #[.int .i64 a0_0, .int .i64 a0_1, .slice A0_2 l0_2.length c0_2, .int .i64 a0_3, .int .u32 a0_4]] rfl (by (try simp only [List.map_toArray, List.map_cons, List.map_nil]); first | done | rfl | (simp only [List.length_drop, List.length_take]; rfl)) ?_; (with_reducible refine (coppicerref_MachineCheck.calls k a0_0 a0_1 _ _ l0_2 a0_3 a0_4 t205 _ ?side1 ?side2 A12.out).mono ?_); (case side1 => repeat (first | exact (Kd.C_below HR0_2.out HB.out) | (with_reducible refine Kd.C_alloc ?_ _) | (with_reducible refine Kd.C_drewN ?_ _) | (with_reducible refine Kd.C_drew ?_))); (case side2 => exact HC0_2.out); rintro e w18 ⟨rfl, hb⟩; refine ⟨_, rfl, ?_⟩; have n0_ := Aside0.mk (Kd.R_below (by (with_reducible repeat (first | apply Kd.R_alloc | apply Kd.R_drewN | apply Kd.R_drew)); exact HO203.out) hb); have n1_ := Aside0.mk (blk_below (g := gb198) (o := .cells #[.int .i64 a0_0, .int .i64 a0_1, .slice A0_2 l0_2.length c0_2, .int .i64 a0_3, .int .u32 a0_4] 37 (0, 0)) (by (with_reducible repeat (first | refine blk_drewN ?_ _ | refine blk_drew ?_ | refine blk_alloc ?_ _)); exact BK198.out) hb); have n2_ := Aside0.mk (below_step (by repeat (first | (with_reducible first | exact HB.out | apply below_alloc | apply pw_below_drewN | apply below_drew1 | refine below_set ?_ GE198.out) | exact HB.out)) hb); clear HO203; clear BK198; clear HB; have HO203 := n0_; have BK198 := n1_; have HB := n2_; clear n0_ n1_ n2_; (try clear hb); (try clear hb2); (try clear hk); (try clear hi)))
        go_meet
        case rel => exact ⟨_, (decide (a1 > 12)), (by first | rfl | (simp; done) | (simp [*]; done)), H', ⟨by first | omega | exact Nat.le_refl _⟩, ⟨by (with_reducible repeat (first | apply Kd.R_alloc | apply Kd.R_drewN | apply Kd.R_drew)); exact HO203.out⟩, ⟨by (with_reducible repeat (first | refine blk_drewN ?_ _ | refine blk_drew ?_ | refine blk_alloc ?_ _)); exact BK198.out⟩, ⟨by repeat (first | (with_reducible first | exact HB.out | apply below_alloc | apply pw_below_drewN | apply below_drew1 | refine below_set ?_ GE198.out) | exact HB.out)⟩⟩
    · rw [if_neg c13] at H
      have c13b0 : (t205 == 0) = false := beq_eq_false_iff_ne.mpr c13
      have c13b1 : (t205 != 0) = true := bne_iff_ne.mpr c13
      (first | rw [c13b0] | (simp only [i64_w, i32_w]; rw [c13b0]) | skip)
      have H' := Aside0.mk H
      clear H
      have hcz19_0 : w11.cell? ⟨gb198, 0, none⟩ = some (.int .i64 a0_0) := (blk_cell BK198.out 0).trans rfl
      have hcz19_1 : w11.cell? ⟨gb198, 1, none⟩ = some (.int .i64 a0_1) := (blk_cell BK198.out 1).trans rfl
      have hcz19_2 : w11.cell? ⟨gb198, 2, none⟩ = some (.slice A0_2 l0_2.length c0_2) := (blk_cell BK198.out 2).trans rfl
      have hcz19_3 : w11.cell? ⟨gb198, 3, none⟩ = some (.int .i64 a0_3) := (blk_cell BK198.out 3).trans rfl
      have hcz19_4 : w11.cell? ⟨gb198, 4, none⟩ = some (.int .u32 a0_4) := (blk_cell BK198.out 4).trans rfl
      have hfz19_0 := blk_frozen BK198.out 0
      have hfz19_1 := blk_frozen BK198.out 1
      have hfz19_2 := blk_frozen BK198.out 2
      have hfz19_3 := blk_frozen BK198.out 3
      have hfz19_4 := blk_frozen BK198.out 4
      go_wp2_with (first | ((with_reducible refine gate_callee (f := 31) rfl ?_); refine goesL_ (some 34) rfl rfl Try.func31 (by kernel_rfl) rfl #[.agg #[.int .i64 a0_0, .int .i64 a0_1, .slice A0_2 l0_2.length c0_2, .int .i64 a0_3, .int .u32 a0_4]] rfl (by (try simp only [List.map_toArray, List.map_cons, List.map_nil]); first | done | rfl | (simp only [List.length_drop, List.length_take]; rfl)) ?_; (with_reducible refine (coppicerref_MachineCheck.calls k a0_0 a0_1 _ _ l0_2 a0_3 a0_4 t205 _ ?side1 ?side2 A12.out).mono ?_); (case side1 => repeat (first | exact (Kd.C_below HR0_2.out HB.out) | (with_reducible refine Kd.C_alloc ?_ _) | (with_reducible refine Kd.C_drewN ?_ _) | (with_reducible refine Kd.C_drew ?_))); (case side2 => exact HC0_2.out); rintro e w20 ⟨rfl, hb⟩; refine ⟨_, rfl, ?_⟩; have n0_ := Aside0.mk (Kd.R_below (by (with_reducible repeat (first | apply Kd.R_alloc | apply Kd.R_drewN | apply Kd.R_drew)); exact HO203.out) hb); have n1_ := Aside0.mk (blk_below (g := gb198) (o := .cells #[.int .i64 a0_0, .int .i64 a0_1, .slice A0_2 l0_2.length c0_2, .int .i64 a0_3, .int .u32 a0_4] 37 (0, 0)) (by (with_reducible repeat (first | refine blk_drewN ?_ _ | refine blk_drew ?_ | refine blk_alloc ?_ _)); exact BK198.out) hb); have n2_ := Aside0.mk (below_step (by repeat (first | (with_reducible first | exact HB.out | apply below_alloc | apply pw_below_drewN | apply below_drew1 | refine below_set ?_ GE198.out) | exact HB.out)) hb); clear HO203; clear BK198; clear HB; have HO203 := n0_; have BK198 := n1_; have HB := n2_; clear n0_ n1_ n2_; (try clear hb); (try clear hb2); (try clear hk); (try clear hi)))
      go_meet
      case rel => exact ⟨_, (true), (by first | rfl | (simp; done) | (simp [*]; done)), H', ⟨by first | omega | exact Nat.le_refl _⟩, ⟨by (with_reducible repeat (first | apply Kd.R_alloc | apply Kd.R_drewN | apply Kd.R_drew)); exact HO203.out⟩, ⟨by (with_reducible repeat (first | refine blk_drewN ?_ _ | refine blk_drew ?_ | refine blk_alloc ?_ _)); exact BK198.out⟩, ⟨by repeat (first | (with_reducible first | exact HB.out | apply below_alloc | apply pw_below_drewN | apply below_drew1 | refine below_set ?_ GE198.out) | exact HB.out)⟩⟩
  case rest =>
    clear HC6
    try clear c1
    try clear p2
    try clear c3
    try clear c12
    try clear c13
    try clear c13b0
    try clear c13b1
    try clear c14
    try clear c14b0
    try clear hcz10_0
    try clear hcz10_1
    try clear hcz10_2
    try clear hcz10_3
    try clear hcz10_4
    try clear hcz15_0
    try clear hcz15_1
    try clear hcz15_2
    try clear hcz15_3
    try clear hcz15_4
    try clear hcz17_0
    try clear hcz17_1
    try clear hcz17_2
    try clear hcz17_3
    try clear hcz17_4
    try clear hcz19_0
    try clear hcz19_1
    try clear hcz19_2
    try clear hcz19_3
    try clear hcz19_4
    try clear hcz8_0
    try clear hcz8_1
    try clear hcz8_2
    try clear hcz8_3
    try clear hcz8_4
    try clear hfz10_0
    try clear hfz10_1
    try clear hfz10_2
    try clear hfz10_3
    try clear hfz10_4
    try clear hfz15_0
    try clear hfz15_1
    try clear hfz15_2
    try clear hfz15_3
    try clear hfz15_4
    try clear hfz17_0
    try clear hfz17_1
    try clear hfz17_2
    try clear hfz17_3
    try clear hfz17_4
    try clear hfz19_0
    try clear hfz19_1
    try clear hfz19_2
    try clear hfz19_3
    try clear hfz19_4
    try clear hfz8_0
    try clear hfz8_1
    try clear hfz8_2
    try clear hfz8_3
    try clear hfz8_4
    obtain ⟨kq, x43_5, rfl, HA, HJ5, HO_9, BK198, HB⟩ := hcut
    cases kq with
    | zero => exact absurd HA.out (by simp [coppicerkeep_TallyBack.j0])
    | succ kj5 =>
      have H := HA.out
      clear HA
      simp only [coppicerkeep_TallyBack.j0] at H
      by_cases c21 : x43_5 = true
      · subst c21
        have H1 : (if t200 = 0 then (some false) else (some (t204 != 0))) = some r := by rw [if_pos rfl] at H; exact H
        clear H
        have H := H1
        clear H1
        by_cases c22 : t200 = 0
        · rw [if_pos c22] at H
          have c22b0 : (t200 == 0) = true := beq_iff_eq.mpr c22
          have c22b1 : (t200 != 0) = false := bne_eq_false_iff_eq.mpr c22
          clear c22
          obtain rfl := Option.some.inj H
          go_wp2
          go_ret
          exact ⟨by first | rfl | (simp [errW_none, errW_some] <;> rfl) | (simp [*, errW_none, errW_some] <;> rfl), by repeat (first | (with_reducible first | exact HB.out | apply below_alloc | apply pw_below_drewN | apply below_drew1 | refine below_set ?_ GE198.out) | exact HB.out)⟩
        · rw [if_neg c22] at H
          have c22b0 : (t200 == 0) = false := beq_eq_false_iff_ne.mpr c22
          have c22b1 : (t200 != 0) = true := bne_iff_ne.mpr c22
          obtain rfl := Option.some.inj H
          go_wp2
          go_ret
          exact ⟨by first | rfl | (simp [errW_none, errW_some] <;> rfl) | (simp [*, errW_none, errW_some] <;> rfl), by repeat (first | (with_reducible first | exact HB.out | apply below_alloc | apply pw_below_drewN | apply below_drew1 | refine below_set ?_ GE198.out) | exact HB.out)⟩
      · replace c21 := Bool.eq_false_iff.mpr c21
        subst c21
        have H1 : ((machine_Not.f kj5 a0_0 a0_1 l0_2 a0_3 a0_4).bind fun bt206 => ((tally_Many.f kj5 bt206.1 bt206.2.1 bt206.2.2.1 bt206.2.2.2.1 bt206.2.2.2.2.1 a1).bind fun bt215 => (coppicerkeep_TallyBack.l0 kj5 a1 a2 t199 t200 t201 t204 bt206.2.2.2.2.2 bt215.1 bt215.2 1 0 a0_0 a0_1 l0_2 a0_3 a0_4))) = some r := by rw [if_neg (show ¬ (false = true) by decide)] at H; exact H
        clear H
        have H := H1
        clear H1
        replace H := Option.bind_eq_some_iff.mp H
        obtain ⟨⟨t206, t207, t208, t211, t212, t213⟩, A230, H⟩ := H
        replace H : ((tally_Many.f kj5 t206 t207 t208 t211 t212 a1).bind fun bt215 => (coppicerkeep_TallyBack.l0 kj5 a1 a2 t199 t200 t201 t204 t213 bt215.1 bt215.2 1 0 a0_0 a0_1 l0_2 a0_3 a0_4)) = some r := H
        have A23 := Aside0.mk A230
        clear A230
        replace H := Option.bind_eq_some_iff.mp H
        obtain ⟨⟨t215, t216⟩, A240, H⟩ := H
        replace H : (coppicerkeep_TallyBack.l0 kj5 a1 a2 t199 t200 t201 t204 t213 t215 t216 1 0 a0_0 a0_1 l0_2 a0_3 a0_4) = some r := H
        have A24 := Aside0.mk A240
        clear A240
        have H' := Aside0.mk H
        clear H
        have hcz25_0 : wc.cell? ⟨gb198, 0, none⟩ = some (.int .i64 a0_0) := (blk_cell BK198.out 0).trans rfl
        have hcz25_1 : wc.cell? ⟨gb198, 1, none⟩ = some (.int .i64 a0_1) := (blk_cell BK198.out 1).trans rfl
        have hcz25_2 : wc.cell? ⟨gb198, 2, none⟩ = some (.slice A0_2 l0_2.length c0_2) := (blk_cell BK198.out 2).trans rfl
        have hcz25_3 : wc.cell? ⟨gb198, 3, none⟩ = some (.int .i64 a0_3) := (blk_cell BK198.out 3).trans rfl
        have hcz25_4 : wc.cell? ⟨gb198, 4, none⟩ = some (.int .u32 a0_4) := (blk_cell BK198.out 4).trans rfl
        have hfz25_0 := blk_frozen BK198.out 0
        have hfz25_1 := blk_frozen BK198.out 1
        have hfz25_2 := blk_frozen BK198.out 2
        have hfz25_3 := blk_frozen BK198.out 3
        have hfz25_4 := blk_frozen BK198.out 4
        go_wp2_with (first | ((with_reducible refine gate_callee (f := 28) rfl ?_); refine goesL_ (some 52) rfl rfl Try.func28 (by kernel_rfl) rfl #[.agg #[.int .i64 a0_0, .int .i64 a0_1, .slice A0_2 l0_2.length c0_2, .int .i64 a0_3, .int .u32 a0_4]] rfl (by (try simp only [List.map_toArray, List.map_cons, List.map_nil]); first | done | rfl | (simp only [List.length_drop, List.length_take]; rfl)) ?_; (with_reducible refine (machine_Not.calls kj5 a0_0 a0_1 _ _ l0_2 a0_3 a0_4 t206 t207 t208 t211 t212 t213 _ ?side1 ?side2 A23.out).mono ?_); (case side1 => repeat (first | exact (Kd.C_below HR0_2.out HB.out) | (with_reducible refine Kd.C_alloc ?_ _) | (with_reducible refine Kd.C_drewN ?_ _) | (with_reducible refine Kd.C_drew ?_))); (case side2 => exact HC0_2.out); rintro e w26 ⟨v209, rfl, ho0, hb⟩; refine ⟨_, rfl, ?_⟩; have n0_ := Aside0.mk (Kd.R_below (by (with_reducible repeat (first | apply Kd.R_alloc | apply Kd.R_drewN | apply Kd.R_drew)); exact HO_9.out) hb); have n1_ := Aside0.mk (Kd.S_lower (Kd.S_new' ho0 (Kd.R_lt (by (with_reducible repeat (first | apply Kd.R_alloc | apply Kd.R_drewN | apply Kd.R_drew)); exact HO_9.out))) (below_size (by repeat (first | (with_reducible first | exact HB.out | apply below_alloc | apply pw_below_drewN | apply below_drew1 | refine below_set ?_ GE198.out) | exact HB.out)))); have n2_ := Aside0.mk (blk_below (g := gb198) (o := .cells #[.int .i64 a0_0, .int .i64 a0_1, .slice A0_2 l0_2.length c0_2, .int .i64 a0_3, .int .u32 a0_4] 37 (0, 0)) (by (with_reducible repeat (first | refine blk_drewN ?_ _ | refine blk_drew ?_ | refine blk_alloc ?_ _)); exact BK198.out) hb); have n3_ := Aside0.mk (below_step (by repeat (first | (with_reducible first | exact HB.out | apply below_alloc | apply pw_below_drewN | apply below_drew1 | refine below_set ?_ GE198.out) | exact HB.out)) hb); clear HO_9; clear BK198; clear HB; have HO_9 := n0_; have HO210 := n1_; have BK198 := n2_; have HB := n3_; clear n0_ n1_ n2_ n3_; (try clear hb); (try clear hb2); (try clear hk); (try clear hi); (try clear ho0)) | ((with_reducible refine gate_dst (N := 11) rfl ?_); (try (refine gate_guard (by rfl) ?_; dsimp only)); refine box_event ?hg (N := 11) ?hd (cs := #[.int .i64 0, .int .i64 0, .slice none 0 0, .int .i64 0, .int .u32 0]) (t := 37) ?hr ?_; (case hd => rfl); (case hg => rfl); (case hr => first | (go_simp; done) | (go_simp; rfl)); intro gb214 hg w27 hbox hb; have n0_ := Aside0.mk (Kd.R_below (by (with_reducible repeat (first | apply Kd.R_alloc | apply Kd.R_drewN | apply Kd.R_drew)); exact HO_9.out) hb); have n1_ := Aside0.mk (Kd.S_below (by (with_reducible repeat (first | apply Kd.S_alloc | apply Kd.S_drewN | apply Kd.S_drew)); exact HO210.out) hb); have n2_ := Aside0.mk (blk_below (g := gb198) (o := .cells #[.int .i64 a0_0, .int .i64 a0_1, .slice A0_2 l0_2.length c0_2, .int .i64 a0_3, .int .u32 a0_4] 37 (0, 0)) (by (with_reducible repeat (first | refine blk_drewN ?_ _ | refine blk_drew ?_ | refine blk_alloc ?_ _)); exact BK198.out) hb); have n3_ := Aside0.mk (below_step (by repeat (first | (with_reducible first | exact HB.out | apply below_alloc | apply pw_below_drewN | apply below_drew1 | refine below_set ?_ GE198.out) | exact HB.out)) hb); have n4_ := Aside0.mk (hbox); have n5_ := Aside0.mk ((by rw [hg]; exact (below_size (by repeat (first | (with_reducible first | exact HB.out | apply below_alloc | apply pw_below_drewN | apply below_drew1 | refine below_set ?_ GE198.out) | exact HB.out))) : w.heap.size ≤ gb214)); have n6_ := Aside0.mk ((by rw [hg]; exact (below_size (by repeat (first | (with_reducible first | exact HB.out | apply below_alloc | apply pw_below_drewN | apply below_drew1 | refine below_set ?_ GE198.out) | exact HB.out))) : w.heap.size ≤ gb214)); have n7_ := Aside0.mk ((by rw [hg]; exact Nat.ne_of_lt (blk_lt (g := gb198) (o := .cells #[.int .i64 a0_0, .int .i64 a0_1, .slice A0_2 l0_2.length c0_2, .int .i64 a0_3, .int .u32 a0_4] 37 (0, 0)) (by (with_reducible repeat (first | refine blk_drewN ?_ _ | refine blk_drew ?_ | refine blk_alloc ?_ _)); exact BK198.out)) : gb198 ≠ gb214)); have n8_ := Aside0.mk ((by rw [hg]; exact Nat.ne_of_gt (blk_lt (g := gb198) (o := .cells #[.int .i64 a0_0, .int .i64 a0_1, .slice A0_2 l0_2.length c0_2, .int .i64 a0_3, .int .u32 a0_4] 37 (0, 0)) (by (with_reducible repeat (first | refine blk_drewN ?_ _ | refine blk_drew ?_ | refine blk_alloc ?_ _)); exact BK198.out)) : gb214 ≠ gb198)); clear HO_9; clear HO210; clear BK198; clear HB; have HO_9 := n0_; have HO210 := n1_; have BK198 := n2_; have HB := n3_; have BK214 := n4_; have GW214 := n5_; have GE214 := n6_; have NB198_214 := n7_; have NB214_198 := n8_; clear n0_ n1_ n2_ n3_ n4_ n5_ n6_ n7_ n8_; clear hb hbox hg; have hnb28 := NB214_198.out; have hnc28 := NB198_214.out; have hcz29_0 : w27.cell? ⟨gb214, 0, none⟩ = some (.int .i64 0) := (blk_cell BK214.out 0).trans rfl; have hcz29_1 : w27.cell? ⟨gb214, 1, none⟩ = some (.int .i64 0) := (blk_cell BK214.out 1).trans rfl; have hcz29_2 : w27.cell? ⟨gb214, 2, none⟩ = some (.slice none 0 0) := (blk_cell BK214.out 2).trans rfl; have hcz29_3 : w27.cell? ⟨gb214, 3, none⟩ = some (.int .i64 0) := (blk_cell BK214.out 3).trans rfl; have hcz29_4 : w27.cell? ⟨gb214, 4, none⟩ = some (.int .u32 0) := (blk_cell BK214.out 4).trans rfl; have hfz29_0 := blk_frozen BK214.out 0; have hfz29_1 := blk_frozen BK214.out 1; have hfz29_2 := blk_frozen BK214.out 2; have hfz29_3 := blk_frozen BK214.out 3; have hfz29_4 := blk_frozen BK214.out 4; obtain ⟨Ao30, co30, eo30⟩ := Kd.S_slice HO210.out; subst eo30) | ((with_reducible refine gate_callee (f := 33) rfl ?_); refine goesL_ (some 58) rfl rfl Try.func33 (by kernel_rfl) rfl #[.agg #[.int .i64 t206, .int .i64 t207, .slice Ao30 t208.length co30, .int .i64 t211, .int .u32 t212], .int .i64 a1] rfl (by (try simp only [List.map_toArray, List.map_cons, List.map_nil]); first | done | rfl | (simp only [List.length_drop, List.length_take]; rfl)) ?_; (with_reducible refine (tally_Many.calls kj5 t206 t207 _ _ t208 t211 t212 a1 t215 t216 _ ?side1 ?side2 A24.out).mono ?_); (case side1 => refine (Kd.S_reads' (e := 28) (base := w.heap.size) (ok := fun k_ => (True ∧ some k_ ≠ (v202 : Value).ownBlock)) (n := t208.length) (c := co30) ?_).2.2; exact (by (with_reducible repeat (first | apply Kd.S_alloc | apply Kd.S_drewN | apply Kd.S_drew)); exact (Kd.S_mono (Kd.S_far (p := ⟨gb214, 4, none⟩) (Kd.S_far (p := ⟨gb214, 3, none⟩) (Kd.S_far (p := ⟨gb214, 2, none⟩) (Kd.S_far (p := ⟨gb214, 1, none⟩) (Kd.S_far (p := ⟨gb214, 0, none⟩) (Kd.S_types HO210.out BK214.out (by decide)) (fun _ hk => hk.2) (.int .i64 t206)) (fun _ hk => hk.2) (.int .i64 t207)) (fun _ hk => hk.2) (.slice Ao30 t208.length co30)) (fun _ hk => hk.2) (.int .i64 t211)) (fun _ hk => hk.2) (.int .u32 t212)) (fun _ h_ => h_.1)))); (case side2 => exact (Kd.S_reads' HO210.out).2.1); rintro e w31 ⟨rfl, hb⟩; refine ⟨_, rfl, ?_⟩; have n0_ := Aside0.mk (Kd.R_below (by (with_reducible repeat (first | apply Kd.R_alloc | apply Kd.R_drewN | apply Kd.R_drew)); exact (Kd.R_mono (Kd.R_far (p := ⟨gb214, 4, none⟩) (Kd.R_far (p := ⟨gb214, 3, none⟩) (Kd.R_far (p := ⟨gb214, 2, none⟩) (Kd.R_far (p := ⟨gb214, 1, none⟩) (Kd.R_far (p := ⟨gb214, 0, none⟩) (Kd.R_types HO_9.out BK214.out (by decide)) (fun _ hk => hk.2) (.int .i64 t206)) (fun _ hk => hk.2) (.int .i64 t207)) (fun _ hk => hk.2) (.slice Ao30 t208.length co30)) (fun _ hk => hk.2) (.int .i64 t211)) (fun _ hk => hk.2) (.int .u32 t212)) (fun _ h_ => h_.1))) hb); have n1_ := Aside0.mk (Kd.S_below (by (with_reducible repeat (first | apply Kd.S_alloc | apply Kd.S_drewN | apply Kd.S_drew)); exact (Kd.S_mono (Kd.S_far (p := ⟨gb214, 4, none⟩) (Kd.S_far (p := ⟨gb214, 3, none⟩) (Kd.S_far (p := ⟨gb214, 2, none⟩) (Kd.S_far (p := ⟨gb214, 1, none⟩) (Kd.S_far (p := ⟨gb214, 0, none⟩) (Kd.S_types HO210.out BK214.out (by decide)) (fun _ hk => hk.2) (.int .i64 t206)) (fun _ hk => hk.2) (.int .i64 t207)) (fun _ hk => hk.2) (.slice Ao30 t208.length co30)) (fun _ hk => hk.2) (.int .i64 t211)) (fun _ hk => hk.2) (.int .u32 t212)) (fun _ h_ => h_.1))) hb); have n2_ := Aside0.mk (blk_below (g := gb198) (o := .cells #[.int .i64 a0_0, .int .i64 a0_1, .slice A0_2 l0_2.length c0_2, .int .i64 a0_3, .int .u32 a0_4] 37 (0, 0)) (by (with_reducible repeat (first | refine blk_drewN ?_ _ | refine blk_drew ?_ | refine blk_alloc ?_ _)); refine blk_far ?_ NB198_214.out _; (with_reducible repeat (first | refine blk_drewN ?_ _ | refine blk_drew ?_ | refine blk_alloc ?_ _)); refine blk_far ?_ NB198_214.out _; (with_reducible repeat (first | refine blk_drewN ?_ _ | refine blk_drew ?_ | refine blk_alloc ?_ _)); refine blk_far ?_ NB198_214.out _; (with_reducible repeat (first | refine blk_drewN ?_ _ | refine blk_drew ?_ | refine blk_alloc ?_ _)); refine blk_far ?_ NB198_214.out _; (with_reducible repeat (first | refine blk_drewN ?_ _ | refine blk_drew ?_ | refine blk_alloc ?_ _)); refine blk_far ?_ NB198_214.out _; (with_reducible repeat (first | refine blk_drewN ?_ _ | refine blk_drew ?_ | refine blk_alloc ?_ _)); exact BK198.out) hb); have n3_ := Aside0.mk (blk_below (g := gb214) (o := .cells #[.int .i64 t206, .int .i64 t207, .slice Ao30 t208.length co30, .int .i64 t211, .int .u32 t212] 37 (0, 0)) (by (with_reducible repeat (first | refine blk_drewN ?_ _ | refine blk_drew ?_ | refine blk_alloc ?_ _)); refine blk_put (cs := #[.int .i64 t206, .int .i64 t207, .slice Ao30 t208.length co30, .int .i64 t211, .int .u32 0]) ?_ 4 _ rfl; (with_reducible repeat (first | refine blk_drewN ?_ _ | refine blk_drew ?_ | refine blk_alloc ?_ _)); refine blk_put (cs := #[.int .i64 t206, .int .i64 t207, .slice Ao30 t208.length co30, .int .i64 0, .int .u32 0]) ?_ 3 _ rfl; (with_reducible repeat (first | refine blk_drewN ?_ _ | refine blk_drew ?_ | refine blk_alloc ?_ _)); refine blk_put (cs := #[.int .i64 t206, .int .i64 t207, .slice none 0 0, .int .i64 0, .int .u32 0]) ?_ 2 _ rfl; (with_reducible repeat (first | refine blk_drewN ?_ _ | refine blk_drew ?_ | refine blk_alloc ?_ _)); refine blk_put (cs := #[.int .i64 t206, .int .i64 0, .slice none 0 0, .int .i64 0, .int .u32 0]) ?_ 1 _ rfl; (with_reducible repeat (first | refine blk_drewN ?_ _ | refine blk_drew ?_ | refine blk_alloc ?_ _)); refine blk_put (cs := #[.int .i64 0, .int .i64 0, .slice none 0 0, .int .i64 0, .int .u32 0]) ?_ 0 _ rfl; (with_reducible repeat (first | refine blk_drewN ?_ _ | refine blk_drew ?_ | refine blk_alloc ?_ _)); exact BK214.out) hb); have n4_ := Aside0.mk (below_step (by repeat (first | (with_reducible first | exact HB.out | apply below_alloc | apply pw_below_drewN | apply below_drew1 | refine below_set ?_ GE198.out | refine below_set ?_ GE214.out) | exact HB.out)) hb); clear HO_9; clear HO210; clear BK198; clear BK214; clear HB; have HO_9 := n0_; have HO210 := n1_; have BK198 := n2_; have BK214 := n3_; have HB := n4_; clear n0_ n1_ n2_ n3_ n4_; (try clear hb); (try clear hb2); (try clear hk); (try clear hi)))
        go_loopg [15, 16] kj5 (fun kq v15 v16 w' => ∃ (x15_2 : Int) (x16_2 : Int), v15 = .int .i64 x15_2 ∧ v16 = .int .i64 x16_2 ∧ Aside0 (coppicerkeep_TallyBack.l0 kq a1 a2 t199 t200 t201 t204 t213 t215 t216 x15_2 x16_2 a0_0 a0_1 l0_2 a0_3 a0_4 = some r) ∧ Aside0 (kq ≤ kj5) ∧ Aside0 (Kd.R (Kd.int .i64) 3 w' w.heap.size (fun _ => True) v202 t201) ∧ Aside0 (Kd.S (Kd.slice 3 (Kd.int .i64)) 28 w' w.heap.size (fun k_ => some k_ ≠ (v202 : Value).ownBlock) (.slice Ao30 t208.length co30) t208) ∧ Aside0 (w'.heap[gb198]? = some (.cells #[.int .i64 a0_0, .int .i64 a0_1, (.slice A0_2 l0_2.length c0_2), .int .i64 a0_3, .int .u32 a0_4] 37 (0, 0))) ∧ Aside0 (w'.heap[gb214]? = some (.cells #[.int .i64 t206, .int .i64 t207, (.slice Ao30 t208.length co30), .int .i64 t211, .int .u32 t212] 37 (0, 0))) ∧ Aside0 (Below w.heap.size w w'))
        case atStart => exact ⟨(1), (0), (by first | rfl | (simp; done) | (simp [*]; done)), (by first | rfl | (simp; done) | (simp [*]; done)), H', ⟨Nat.le_refl _⟩, ⟨by (with_reducible repeat (first | apply Kd.R_alloc | apply Kd.R_drewN | apply Kd.R_drew)); exact HO_9.out⟩, ⟨by (with_reducible repeat (first | apply Kd.S_alloc | apply Kd.S_drewN | apply Kd.S_drew)); exact Kd.S_mono HO210.out (fun _ hk => hk.2)⟩, ⟨by (with_reducible repeat (first | refine blk_drewN ?_ _ | refine blk_drew ?_ | refine blk_alloc ?_ _)); exact BK198.out⟩, ⟨by (with_reducible repeat (first | refine blk_drewN ?_ _ | refine blk_drew ?_ | refine blk_alloc ?_ _)); exact BK214.out⟩, ⟨by repeat (first | (with_reducible first | exact HB.out | apply below_alloc | apply pw_below_drewN | apply below_drew1 | refine below_set ?_ GE198.out | refine below_set ?_ GE214.out) | exact HB.out)⟩⟩
        case round =>
          clear H'
          try clear c1
          try clear c2
          try clear p2
          try clear c3
          try clear c12
          try clear c13
          try clear c13b0
          try clear c13b1
          try clear c14
          try clear c14b0
          try clear c21
          try clear c22
          try clear c22b0
          try clear c22b1
          try clear c28
          try clear c31
          try clear hcz10_0
          try clear hcz10_1
          try clear hcz10_2
          try clear hcz10_3
          try clear hcz10_4
          try clear hcz15_0
          try clear hcz15_1
          try clear hcz15_2
          try clear hcz15_3
          try clear hcz15_4
          try clear hcz17_0
          try clear hcz17_1
          try clear hcz17_2
          try clear hcz17_3
          try clear hcz17_4
          try clear hcz19_0
          try clear hcz19_1
          try clear hcz19_2
          try clear hcz19_3
          try clear hcz19_4
          try clear hcz25_0
          try clear hcz25_1
          try clear hcz25_2
          try clear hcz25_3
          try clear hcz25_4
          try clear hcz29_0
          try clear hcz29_1
          try clear hcz29_2
          try clear hcz29_3
          try clear hcz29_4
          try clear hcz8_0
          try clear hcz8_1
          try clear hcz8_2
          try clear hcz8_3
          try clear hcz8_4
          try clear hfz10_0
          try clear hfz10_1
          try clear hfz10_2
          try clear hfz10_3
          try clear hfz10_4
          try clear hfz15_0
          try clear hfz15_1
          try clear hfz15_2
          try clear hfz15_3
          try clear hfz15_4
          try clear hfz17_0
          try clear hfz17_1
          try clear hfz17_2
          try clear hfz17_3
          try clear hfz17_4
          try clear hfz19_0
          try clear hfz19_1
          try clear hfz19_2
          try clear hfz19_3
          try clear hfz19_4
          try clear hfz25_0
          try clear hfz25_1
          try clear hfz25_2
          try clear hfz25_3
          try clear hfz25_4
          try clear hfz29_0
          try clear hfz29_1
          try clear hfz29_2
          try clear hfz29_3
          try clear hfz29_4
          try clear hfz8_0
          try clear hfz8_1
          try clear hfz8_2
          try clear hfz8_3
          try clear hfz8_4
          try clear p2
          obtain ⟨x15_2, x16_2, rfl, rfl, HA, HK2, HO_9, HO_215002, BK198, BK214, HB⟩ := hrel
          cases gk with
          | zero => exact absurd HA.out (by simp [coppicerkeep_TallyBack.l0])
          | succ k2 =>
            have H := HA.out
            clear HA
            simp only [coppicerkeep_TallyBack.l0] at H
            by_cases c32 : x16_2 < a1
            · rw [if_pos c32] at H
              have c32b0 : decide (x16_2 < a1) = true := decide_eq_true c32
              clear c32
              have H' := Aside0.mk H
              clear H
              have hnb33 := NB198_214.out
              have hnc33 := NB214_198.out
              have hcz34_0 : wr.cell? ⟨gb198, 0, none⟩ = some (.int .i64 a0_0) := (blk_cell BK198.out 0).trans rfl
              have hcz34_1 : wr.cell? ⟨gb198, 1, none⟩ = some (.int .i64 a0_1) := (blk_cell BK198.out 1).trans rfl
              have hcz34_2 : wr.cell? ⟨gb198, 2, none⟩ = some (.slice A0_2 l0_2.length c0_2) := (blk_cell BK198.out 2).trans rfl
              have hcz34_3 : wr.cell? ⟨gb198, 3, none⟩ = some (.int .i64 a0_3) := (blk_cell BK198.out 3).trans rfl
              have hcz34_4 : wr.cell? ⟨gb198, 4, none⟩ = some (.int .u32 a0_4) := (blk_cell BK198.out 4).trans rfl
              have hfz34_0 := blk_frozen BK198.out 0
              have hfz34_1 := blk_frozen BK198.out 1
              have hfz34_2 := blk_frozen BK198.out 2
              have hfz34_3 := blk_frozen BK198.out 3
              have hfz34_4 := blk_frozen BK198.out 4
              go_wp2
              go_roundg k2
              case measure => have := HJ5.out; have := HK2.out; omega
              case rel => exact ⟨(wrap64 (x15_2 * a0_1)), (wrap64 (x16_2 + 1)), (by first | rfl | (simp; done) | (simp [*]; done)), (by first | rfl | (simp; done) | (simp [*]; done)), H', ⟨by have := HJ5.out; have := HK2.out; omega⟩, ⟨by (with_reducible repeat (first | apply Kd.R_alloc | apply Kd.R_drewN | apply Kd.R_drew)); exact HO_9.out⟩, ⟨by (with_reducible repeat (first | apply Kd.S_alloc | apply Kd.S_drewN | apply Kd.S_drew)); exact HO_215002.out⟩, ⟨by (with_reducible repeat (first | refine blk_drewN ?_ _ | refine blk_drew ?_ | refine blk_alloc ?_ _)); exact BK198.out⟩, ⟨by (with_reducible repeat (first | refine blk_drewN ?_ _ | refine blk_drew ?_ | refine blk_alloc ?_ _)); exact BK214.out⟩, ⟨by repeat (first | (with_reducible first | exact HB.out | apply below_alloc | apply pw_below_drewN | apply below_drew1 | refine below_set ?_ GE198.out | refine below_set ?_ GE214.out) | exact HB.out)⟩⟩
            · rw [if_neg c32] at H
              have c32b0 : decide (x16_2 < a1) = false := decide_eq_false c32
              clear c32
              have HC35 := Aside0.mk H
              clear H
              go_upto_region 12 with (fail)
              go_cut [106] (fun v106 wc => ∃ (kq : Nat) (x106_34 : Bool), v106 = .bool x106_34 ∧ Aside0 (coppicerkeep_TallyBack.j2 kq a1 a2 t201 t204 x106_34 a0_0 a0_1 l0_2 a0_3 a0_4 = some r) ∧ Aside0 (kq ≤ k2) ∧ Aside0 (Kd.R (Kd.int .i64) 3 wc w.heap.size (fun _ => True) v202 t201) ∧ Aside0 (Kd.S (Kd.slice 3 (Kd.int .i64)) 28 wc w.heap.size (fun k_ => some k_ ≠ (v202 : Value).ownBlock) (.slice Ao30 t208.length co30) t208) ∧ Aside0 (wc.heap[gb198]? = some (.cells #[.int .i64 a0_0, .int .i64 a0_1, (.slice A0_2 l0_2.length c0_2), .int .i64 a0_3, .int .u32 a0_4] 37 (0, 0))) ∧ Aside0 (wc.heap[gb214]? = some (.cells #[.int .i64 t206, .int .i64 t207, (.slice Ao30 t208.length co30), .int .i64 t211, .int .u32 t212] 37 (0, 0))) ∧ Aside0 (Below w.heap.size w wc))
              case first =>
                have H := HC35.out
                clear HC35
                by_cases c36 : t200 = 0
                · rw [if_pos c36] at H
                  have c36b0 : (t200 == 0) = true := beq_iff_eq.mpr c36
                  have c36b1 : (t200 != 0) = false := bne_eq_false_iff_eq.mpr c36
                  clear c36
                  (first | rw [c36b0] | (simp only [i64_w, i32_w]; rw [c36b0]) | skip)
                  by_cases c37 : t213 = 0
                  · rw [if_pos c37] at H
                    have c37b0 : (t213 == 0) = true := beq_iff_eq.mpr c37
                    have c37b1 : (t213 != 0) = false := bne_eq_false_iff_eq.mpr c37
                    clear c37
                    by_cases c38 : t216 = 0
                    · rw [if_pos c38] at H
                      have c38b0 : (t216 == 0) = true := beq_iff_eq.mpr c38
                      have c38b1 : (t216 != 0) = false := bne_eq_false_iff_eq.mpr c38
                      clear c38
                      by_cases c39 : (wrap64 (t199 + t215)) = x15_2
                      · rw [if_pos c39] at H
                        have c39b0 : ((wrap64 (t199 + t215)) == x15_2) = true := beq_iff_eq.mpr c39
                        have c39b1 : ((wrap64 (t199 + t215)) != x15_2) = false := bne_eq_false_iff_eq.mpr c39
                        clear c39
                        by_cases c40 : t199 < 0
                        · rw [if_pos c40] at H
                          have c40b0 : decide (t199 < 0) = true := decide_eq_true c40
                          clear c40
                          have H' := Aside0.mk H
                          clear H
                          go_wp2
                          go_meet
                          case rel => exact ⟨_, (true), (by first | rfl | (simp; done) | (simp [*]; done)), H', ⟨by have := HJ5.out; have := HK2.out; first | omega | exact Nat.le_refl _⟩, ⟨by (with_reducible repeat (first | apply Kd.R_alloc | apply Kd.R_drewN | apply Kd.R_drew)); exact HO_9.out⟩, ⟨by (with_reducible repeat (first | apply Kd.S_alloc | apply Kd.S_drewN | apply Kd.S_drew)); exact HO_215002.out⟩, ⟨by (with_reducible repeat (first | refine blk_drewN ?_ _ | refine blk_drew ?_ | refine blk_alloc ?_ _)); exact BK198.out⟩, ⟨by (with_reducible repeat (first | refine blk_drewN ?_ _ | refine blk_drew ?_ | refine blk_alloc ?_ _)); exact BK214.out⟩, ⟨by repeat (first | (with_reducible first | exact HB.out | apply below_alloc | apply pw_below_drewN | apply below_drew1 | refine below_set ?_ GE198.out | refine below_set ?_ GE214.out) | exact HB.out)⟩⟩
                        · rw [if_neg c40] at H
                          have c40b0 : decide (t199 < 0) = false := decide_eq_false c40
                          clear c40
                          by_cases c41 : t215 < 0
                          · rw [if_pos c41] at H
                            have c41b0 : decide (t215 < 0) = true := decide_eq_true c41
                            clear c41
                            have H' := Aside0.mk H
                            clear H
                            go_wp2
                            go_meet
                            case rel => exact ⟨_, (true), (by first | rfl | (simp; done) | (simp [*]; done)), H', ⟨by have := HJ5.out; have := HK2.out; first | omega | exact Nat.le_refl _⟩, ⟨by (with_reducible repeat (first | apply Kd.R_alloc | apply Kd.R_drewN | apply Kd.R_drew)); exact HO_9.out⟩, ⟨by (with_reducible repeat (first | apply Kd.S_alloc | apply Kd.S_drewN | apply Kd.S_drew)); exact HO_215002.out⟩, ⟨by (with_reducible repeat (first | refine blk_drewN ?_ _ | refine blk_drew ?_ | refine blk_alloc ?_ _)); exact BK198.out⟩, ⟨by (with_reducible repeat (first | refine blk_drewN ?_ _ | refine blk_drew ?_ | refine blk_alloc ?_ _)); exact BK214.out⟩, ⟨by repeat (first | (with_reducible first | exact HB.out | apply below_alloc | apply pw_below_drewN | apply below_drew1 | refine below_set ?_ GE198.out | refine below_set ?_ GE214.out) | exact HB.out)⟩⟩
                          · rw [if_neg c41] at H
                            have c41b0 : decide (t215 < 0) = false := decide_eq_false c41
                            clear c41
                            by_cases c42 : a2 ≥ 0
                            · rw [if_pos c42] at H
                              have c42b0 : decide (0 ≤ a2) = true := decide_eq_true c42
                              clear c42
                              have H' := Aside0.mk H
                              clear H
                              go_wp2
                              go_meet
                              case rel => exact ⟨_, (((t204 == 0) != (decide (a2 < t199)))), (by first | rfl | (simp; done) | (simp [*]; done)), H', ⟨by have := HJ5.out; have := HK2.out; first | omega | exact Nat.le_refl _⟩, ⟨by (with_reducible repeat (first | apply Kd.R_alloc | apply Kd.R_drewN | apply Kd.R_drew)); exact HO_9.out⟩, ⟨by (with_reducible repeat (first | apply Kd.S_alloc | apply Kd.S_drewN | apply Kd.S_drew)); exact HO_215002.out⟩, ⟨by (with_reducible repeat (first | refine blk_drewN ?_ _ | refine blk_drew ?_ | refine blk_alloc ?_ _)); exact BK198.out⟩, ⟨by (with_reducible repeat (first | refine blk_drewN ?_ _ | refine blk_drew ?_ | refine blk_alloc ?_ _)); exact BK214.out⟩, ⟨by repeat (first | (with_reducible first | exact HB.out | apply below_alloc | apply pw_below_drewN | apply below_drew1 | refine below_set ?_ GE198.out | refine below_set ?_ GE214.out) | exact HB.out)⟩⟩
                            · rw [if_neg c42] at H
                              have c42b0 : decide (0 ≤ a2) = false := decide_eq_false c42
                              clear c42
                              have H' := Aside0.mk H
                              clear H
                              go_wp2
                              go_meet
                              case rel => exact ⟨_, (((t204 == 0) != false)), (by first | rfl | (simp; done) | (simp [*]; done)), H', ⟨by have := HJ5.out; have := HK2.out; first | omega | exact Nat.le_refl _⟩, ⟨by (with_reducible repeat (first | apply Kd.R_alloc | apply Kd.R_drewN | apply Kd.R_drew)); exact HO_9.out⟩, ⟨by (with_reducible repeat (first | apply Kd.S_alloc | apply Kd.S_drewN | apply Kd.S_drew)); exact HO_215002.out⟩, ⟨by (with_reducible repeat (first | refine blk_drewN ?_ _ | refine blk_drew ?_ | refine blk_alloc ?_ _)); exact BK198.out⟩, ⟨by (with_reducible repeat (first | refine blk_drewN ?_ _ | refine blk_drew ?_ | refine blk_alloc ?_ _)); exact BK214.out⟩, ⟨by repeat (first | (with_reducible first | exact HB.out | apply below_alloc | apply pw_below_drewN | apply below_drew1 | refine below_set ?_ GE198.out | refine below_set ?_ GE214.out) | exact HB.out)⟩⟩
                      · rw [if_neg c39] at H
                        have c39b0 : ((wrap64 (t199 + t215)) == x15_2) = false := beq_eq_false_iff_ne.mpr c39
                        have c39b1 : ((wrap64 (t199 + t215)) != x15_2) = true := bne_iff_ne.mpr c39
                        have H' := Aside0.mk H
                        clear H
                        go_wp2
                        go_meet
                        case rel => exact ⟨_, (true), (by first | rfl | (simp; done) | (simp [*]; done)), H', ⟨by have := HJ5.out; have := HK2.out; first | omega | exact Nat.le_refl _⟩, ⟨by (with_reducible repeat (first | apply Kd.R_alloc | apply Kd.R_drewN | apply Kd.R_drew)); exact HO_9.out⟩, ⟨by (with_reducible repeat (first | apply Kd.S_alloc | apply Kd.S_drewN | apply Kd.S_drew)); exact HO_215002.out⟩, ⟨by (with_reducible repeat (first | refine blk_drewN ?_ _ | refine blk_drew ?_ | refine blk_alloc ?_ _)); exact BK198.out⟩, ⟨by (with_reducible repeat (first | refine blk_drewN ?_ _ | refine blk_drew ?_ | refine blk_alloc ?_ _)); exact BK214.out⟩, ⟨by repeat (first | (with_reducible first | exact HB.out | apply below_alloc | apply pw_below_drewN | apply below_drew1 | refine below_set ?_ GE198.out | refine below_set ?_ GE214.out) | exact HB.out)⟩⟩
                    · rw [if_neg c38] at H
                      have c38b0 : (t216 == 0) = false := beq_eq_false_iff_ne.mpr c38
                      have c38b1 : (t216 != 0) = true := bne_iff_ne.mpr c38
                      have H' := Aside0.mk H
                      clear H
                      go_wp2
                      go_meet
                      case rel => exact ⟨_, (true), (by first | rfl | (simp; done) | (simp [*]; done)), H', ⟨by have := HJ5.out; have := HK2.out; first | omega | exact Nat.le_refl _⟩, ⟨by (with_reducible repeat (first | apply Kd.R_alloc | apply Kd.R_drewN | apply Kd.R_drew)); exact HO_9.out⟩, ⟨by (with_reducible repeat (first | apply Kd.S_alloc | apply Kd.S_drewN | apply Kd.S_drew)); exact HO_215002.out⟩, ⟨by (with_reducible repeat (first | refine blk_drewN ?_ _ | refine blk_drew ?_ | refine blk_alloc ?_ _)); exact BK198.out⟩, ⟨by (with_reducible repeat (first | refine blk_drewN ?_ _ | refine blk_drew ?_ | refine blk_alloc ?_ _)); exact BK214.out⟩, ⟨by repeat (first | (with_reducible first | exact HB.out | apply below_alloc | apply pw_below_drewN | apply below_drew1 | refine below_set ?_ GE198.out | refine below_set ?_ GE214.out) | exact HB.out)⟩⟩
                  · rw [if_neg c37] at H
                    have c37b0 : (t213 == 0) = false := beq_eq_false_iff_ne.mpr c37
                    have c37b1 : (t213 != 0) = true := bne_iff_ne.mpr c37
                    have H' := Aside0.mk H
                    clear H
                    go_wp2
                    go_meet
                    case rel => exact ⟨_, (true), (by first | rfl | (simp; done) | (simp [*]; done)), H', ⟨by have := HJ5.out; have := HK2.out; first | omega | exact Nat.le_refl _⟩, ⟨by (with_reducible repeat (first | apply Kd.R_alloc | apply Kd.R_drewN | apply Kd.R_drew)); exact HO_9.out⟩, ⟨by (with_reducible repeat (first | apply Kd.S_alloc | apply Kd.S_drewN | apply Kd.S_drew)); exact HO_215002.out⟩, ⟨by (with_reducible repeat (first | refine blk_drewN ?_ _ | refine blk_drew ?_ | refine blk_alloc ?_ _)); exact BK198.out⟩, ⟨by (with_reducible repeat (first | refine blk_drewN ?_ _ | refine blk_drew ?_ | refine blk_alloc ?_ _)); exact BK214.out⟩, ⟨by repeat (first | (with_reducible first | exact HB.out | apply below_alloc | apply pw_below_drewN | apply below_drew1 | refine below_set ?_ GE198.out | refine below_set ?_ GE214.out) | exact HB.out)⟩⟩
                · rw [if_neg c36] at H
                  have c36b0 : (t200 == 0) = false := beq_eq_false_iff_ne.mpr c36
                  have c36b1 : (t200 != 0) = true := bne_iff_ne.mpr c36
                  (first | rw [c36b0] | (simp only [i64_w, i32_w]; rw [c36b0]) | skip)
                  have H' := Aside0.mk H
                  clear H
                  go_wp2
                  go_meet
                  case rel => exact ⟨_, (true), (by first | rfl | (simp; done) | (simp [*]; done)), H', ⟨by have := HJ5.out; have := HK2.out; first | omega | exact Nat.le_refl _⟩, ⟨by (with_reducible repeat (first | apply Kd.R_alloc | apply Kd.R_drewN | apply Kd.R_drew)); exact HO_9.out⟩, ⟨by (with_reducible repeat (first | apply Kd.S_alloc | apply Kd.S_drewN | apply Kd.S_drew)); exact HO_215002.out⟩, ⟨by (with_reducible repeat (first | refine blk_drewN ?_ _ | refine blk_drew ?_ | refine blk_alloc ?_ _)); exact BK198.out⟩, ⟨by (with_reducible repeat (first | refine blk_drewN ?_ _ | refine blk_drew ?_ | refine blk_alloc ?_ _)); exact BK214.out⟩, ⟨by repeat (first | (with_reducible first | exact HB.out | apply below_alloc | apply pw_below_drewN | apply below_drew1 | refine below_set ?_ GE198.out | refine below_set ?_ GE214.out) | exact HB.out)⟩⟩
              case rest =>
                clear HC35
                try clear c1
                try clear c2
                try clear p2
                try clear c3
                try clear c4
                try clear p6
                try clear c12
                try clear c13
                try clear c13b0
                try clear c13b1
                try clear c14
                try clear c14b0
                try clear c21
                try clear c22
                try clear c22b0
                try clear c22b1
                try clear c28
                try clear c31
                try clear c32
                try clear c32b0
                try clear c33
                try clear c34
                try clear c36
                try clear c36b0
                try clear c36b1
                try clear c37
                try clear c37b0
                try clear c37b1
                try clear c38
                try clear c38b0
                try clear c38b1
                try clear c39
                try clear c39b0
                try clear c39b1
                try clear c40
                try clear c40b0
                try clear c41
                try clear c41b0
                try clear c42
                try clear c42b0
                try clear hcz10_0
                try clear hcz10_1
                try clear hcz10_2
                try clear hcz10_3
                try clear hcz10_4
                try clear hcz15_0
                try clear hcz15_1
                try clear hcz15_2
                try clear hcz15_3
                try clear hcz15_4
                try clear hcz17_0
                try clear hcz17_1
                try clear hcz17_2
                try clear hcz17_3
                try clear hcz17_4
                try clear hcz19_0
                try clear hcz19_1
                try clear hcz19_2
                try clear hcz19_3
                try clear hcz19_4
                try clear hcz25_0
                try clear hcz25_1
                try clear hcz25_2
                try clear hcz25_3
                try clear hcz25_4
                try clear hcz29_0
                try clear hcz29_1
                try clear hcz29_2
                try clear hcz29_3
                try clear hcz29_4
                try clear hcz34_0
                try clear hcz34_1
                try clear hcz34_2
                try clear hcz34_3
                try clear hcz34_4
                try clear hcz8_0
                try clear hcz8_1
                try clear hcz8_2
                try clear hcz8_3
                try clear hcz8_4
                try clear hfz10_0
                try clear hfz10_1
                try clear hfz10_2
                try clear hfz10_3
                try clear hfz10_4
                try clear hfz15_0
                try clear hfz15_1
                try clear hfz15_2
                try clear hfz15_3
                try clear hfz15_4
                try clear hfz17_0
                try clear hfz17_1
                try clear hfz17_2
                try clear hfz17_3
                try clear hfz17_4
                try clear hfz19_0
                try clear hfz19_1
                try clear hfz19_2
                try clear hfz19_3
                try clear hfz19_4
                try clear hfz25_0
                try clear hfz25_1
                try clear hfz25_2
                try clear hfz25_3
                try clear hfz25_4
                try clear hfz29_0
                try clear hfz29_1
                try clear hfz29_2
                try clear hfz29_3
                try clear hfz29_4
                try clear hfz34_0
                try clear hfz34_1
                try clear hfz34_2
                try clear hfz34_3
                try clear hfz34_4
                try clear hfz8_0
                try clear hfz8_1
                try clear hfz8_2
                try clear hfz8_3
                try clear hfz8_4
                try clear p2
                obtain ⟨kq, x106_34, rfl, HA, HJ34, HO_9, HO_215002, BK198, BK214, HB⟩ := hcut
                cases kq with
                | zero => exact absurd HA.out (by simp [coppicerkeep_TallyBack.j2])
                | succ kj34 =>
                  have H := HA.out
                  clear HA
                  simp only [coppicerkeep_TallyBack.j2] at H
                  by_cases c43 : x106_34 = true
                  · subst c43
                    have H1 : (some false) = some r := by rw [if_pos rfl] at H; exact H
                    clear H
                    have H := H1
                    clear H1
                    obtain rfl := Option.some.inj H
                    go_wp2
                    go_ret
                    exact ⟨by first | rfl | (simp [errW_none, errW_some] <;> rfl) | (simp [*, errW_none, errW_some] <;> rfl), by repeat (first | (with_reducible first | exact HB.out | apply below_alloc | apply pw_below_drewN | apply below_drew1 | refine below_set ?_ GE198.out | refine below_set ?_ GE214.out) | exact HB.out)⟩
                  · replace c43 := Bool.eq_false_iff.mpr c43
                    subst c43
                    have H1 : (if t204 = 0 then ((tally_Place.f kj34 a0_0 a0_1 l0_2 a0_3 a0_4 t201).bind fun bt217 => ((machine_Run.f kj34 a0_0 a0_1 l0_2 a0_3 a0_4 t201).bind fun bt219 => (if bt217.2 = 0 then (if bt219.2.2 = 0 then (if bt217.1 = a2 then (if bt219.2.1 = true then (some ((t201.length : Int) == a1)) else (some false)) else (some false)) else (some false)) else (some false)))) else (some ((t201.length : Int) == 0))) = some r := by rw [if_neg (show ¬ (false = true) by decide)] at H; exact H
                    clear H
                    have H := H1
                    clear H1
                    by_cases c44 : t204 = 0
                    · rw [if_pos c44] at H
                      have c44b0 : (t204 == 0) = true := beq_iff_eq.mpr c44
                      have c44b1 : (t204 != 0) = false := bne_eq_false_iff_eq.mpr c44
                      clear c44
                      replace H := Option.bind_eq_some_iff.mp H
                      obtain ⟨⟨t217, t218⟩, A450, H⟩ := H
                      replace H : ((machine_Run.f kj34 a0_0 a0_1 l0_2 a0_3 a0_4 t201).bind fun bt219 => (if t218 = 0 then (if bt219.2.2 = 0 then (if t217 = a2 then (if bt219.2.1 = true then (some ((t201.length : Int) == a1)) else (some false)) else (some false)) else (some false)) else (some false))) = some r := H
                      have A45 := Aside0.mk A450
                      clear A450
                      replace H := Option.bind_eq_some_iff.mp H
                      obtain ⟨⟨t219, t220, t221⟩, A460, H⟩ := H
                      replace H : (if t218 = 0 then (if t221 = 0 then (if t217 = a2 then (if t220 = true then (some ((t201.length : Int) == a1)) else (some false)) else (some false)) else (some false)) else (some false)) = some r := H
                      have A46 := Aside0.mk A460
                      clear A460
                      by_cases c47 : t218 = 0
                      · rw [if_pos c47] at H
                        have c47b0 : (t218 == 0) = true := beq_iff_eq.mpr c47
                        have c47b1 : (t218 != 0) = false := bne_eq_false_iff_eq.mpr c47
                        clear c47
                        by_cases c48 : t221 = 0
                        · rw [if_pos c48] at H
                          have c48b0 : (t221 == 0) = true := beq_iff_eq.mpr c48
                          have c48b1 : (t221 != 0) = false := bne_eq_false_iff_eq.mpr c48
                          clear c48
                          by_cases c49 : t217 = a2
                          · rw [if_pos c49] at H
                            have c49b0 : (t217 == a2) = true := beq_iff_eq.mpr c49
                            have c49b1 : (t217 != a2) = false := bne_eq_false_iff_eq.mpr c49
                            clear c49
                            by_cases c50 : t220 = true
                            · subst c50
                              have H1 : (some ((t201.length : Int) == a1)) = some r := by rw [if_pos rfl] at H; exact H
                              clear H
                              have H := H1
                              clear H1
                              obtain rfl := Option.some.inj H
                              have hnb51 := NB198_214.out
                              have hnc51 := NB214_198.out
                              have hcz52_0 : wc.cell? ⟨gb198, 0, none⟩ = some (.int .i64 a0_0) := (blk_cell BK198.out 0).trans rfl
                              have hcz52_1 : wc.cell? ⟨gb198, 1, none⟩ = some (.int .i64 a0_1) := (blk_cell BK198.out 1).trans rfl
                              have hcz52_2 : wc.cell? ⟨gb198, 2, none⟩ = some (.slice A0_2 l0_2.length c0_2) := (blk_cell BK198.out 2).trans rfl
                              have hcz52_3 : wc.cell? ⟨gb198, 3, none⟩ = some (.int .i64 a0_3) := (blk_cell BK198.out 3).trans rfl
                              have hcz52_4 : wc.cell? ⟨gb198, 4, none⟩ = some (.int .u32 a0_4) := (blk_cell BK198.out 4).trans rfl
                              have hfz52_0 := blk_frozen BK198.out 0
                              have hfz52_1 := blk_frozen BK198.out 1
                              have hfz52_2 := blk_frozen BK198.out 2
                              have hfz52_3 := blk_frozen BK198.out 3
                              have hfz52_4 := blk_frozen BK198.out 4
                              obtain ⟨Ao53, co53, eo53⟩ := Kd.R_slice HO_9.out
                              subst eo53
                              go_wp2_with (first | ((with_reducible refine gate_callee (f := 35) rfl ?_); refine goesL_ (some 115) rfl rfl Try.func35 (by kernel_rfl) rfl #[.agg #[.int .i64 a0_0, .int .i64 a0_1, .slice A0_2 l0_2.length c0_2, .int .i64 a0_3, .int .u32 a0_4], .slice Ao53 t201.length co53] rfl (by (try simp only [List.map_toArray, List.map_cons, List.map_nil]); first | done | rfl | (simp only [List.length_drop, List.length_take]; rfl)) ?_; (with_reducible refine (tally_Place.calls kj34 a0_0 a0_1 _ _ l0_2 a0_3 a0_4 _ _ t201 t217 t218 _ ?side1 ?side2 ?side3 ?side4 A45.out).mono ?_); (case side1 => repeat (first | exact (Kd.C_below HR0_2.out HB.out) | (with_reducible refine Kd.C_alloc ?_ _) | (with_reducible refine Kd.C_drewN ?_ _) | (with_reducible refine Kd.C_drew ?_))); (case side2 => exact HC0_2.out); (case side3 => repeat (first | exact (Kd.R_reads' HO_9.out).2.2 | (with_reducible refine Kd.C_alloc ?_ _) | (with_reducible refine Kd.C_drewN ?_ _) | (with_reducible refine Kd.C_drew ?_))); (case side4 => exact (Kd.R_reads' HO_9.out).2.1); rintro e w54 ⟨rfl, hb⟩; refine ⟨_, rfl, ?_⟩; have n0_ := Aside0.mk (Kd.R_below (by (with_reducible repeat (first | apply Kd.R_alloc | apply Kd.R_drewN | apply Kd.R_drew)); exact HO_9.out) hb); have n1_ := Aside0.mk (Kd.S_below (by (with_reducible repeat (first | apply Kd.S_alloc | apply Kd.S_drewN | apply Kd.S_drew)); exact HO_215002.out) hb); have n2_ := Aside0.mk (blk_below (g := gb198) (o := .cells #[.int .i64 a0_0, .int .i64 a0_1, .slice A0_2 l0_2.length c0_2, .int .i64 a0_3, .int .u32 a0_4] 37 (0, 0)) (by (with_reducible repeat (first | refine blk_drewN ?_ _ | refine blk_drew ?_ | refine blk_alloc ?_ _)); exact BK198.out) hb); have n3_ := Aside0.mk (blk_below (g := gb214) (o := .cells #[.int .i64 t206, .int .i64 t207, .slice Ao30 t208.length co30, .int .i64 t211, .int .u32 t212] 37 (0, 0)) (by (with_reducible repeat (first | refine blk_drewN ?_ _ | refine blk_drew ?_ | refine blk_alloc ?_ _)); exact BK214.out) hb); have n4_ := Aside0.mk (below_step (by repeat (first | (with_reducible first | exact HB.out | apply below_alloc | apply pw_below_drewN | apply below_drew1 | refine below_set ?_ GE198.out | refine below_set ?_ GE214.out) | exact HB.out)) hb); clear HO_9; clear HO_215002; clear BK198; clear BK214; clear HB; have HO_9 := n0_; have HO_215002 := n1_; have BK198 := n2_; have BK214 := n3_; have HB := n4_; clear n0_ n1_ n2_ n3_ n4_; (try clear hb); (try clear hb2); (try clear hk); (try clear hi); have hcz55_0 : w54.cell? ⟨gb198, 0, none⟩ = some (.int .i64 a0_0) := (blk_cell BK198.out 0).trans rfl; have hcz55_1 : w54.cell? ⟨gb198, 1, none⟩ = some (.int .i64 a0_1) := (blk_cell BK198.out 1).trans rfl; have hcz55_2 : w54.cell? ⟨gb198, 2, none⟩ = some (.slice A0_2 l0_2.length c0_2) := (blk_cell BK198.out 2).trans rfl; have hcz55_3 : w54.cell? ⟨gb198, 3, none⟩ = some (.int .i64 a0_3) := (blk_cell BK198.out 3).trans rfl; have hcz55_4 : w54.cell? ⟨gb198, 4, none⟩ = some (.int .u32 a0_4) := (blk_cell BK198.out 4).trans rfl; have hfz55_0 := blk_frozen BK198.out 0; have hfz55_1 := blk_frozen BK198.out 1; have hfz55_2 := blk_frozen BK198.out 2; have hfz55_3 := blk_frozen BK198.out 3; have hfz55_4 := blk_frozen BK198.out 4) | ((with_reducible refine gate_callee (f := 18) rfl ?_); refine goesL_ (some 121) rfl rfl Try.func18 (by kernel_rfl) rfl #[.agg #[.int .i64 a0_0, .int .i64 a0_1, .slice A0_2 l0_2.length c0_2, .int .i64 a0_3, .int .u32 a0_4], .slice Ao53 t201.length co53] rfl (by (try simp only [List.map_toArray, List.map_cons, List.map_nil]); first | done | rfl | (simp only [List.length_drop, List.length_take]; rfl)) ?_; (with_reducible refine (machine_Run.calls kj34 a0_0 a0_1 _ _ l0_2 a0_3 a0_4 _ _ t201 t219 true t221 _ ?side1 ?side2 ?side3 ?side4 A46.out).mono ?_); (case side1 => repeat (first | exact (Kd.C_below HR0_2.out HB.out) | (with_reducible refine Kd.C_alloc ?_ _) | (with_reducible refine Kd.C_drewN ?_ _) | (with_reducible refine Kd.C_drew ?_))); (case side2 => exact HC0_2.out); (case side3 => repeat (first | exact (Kd.R_reads' HO_9.out).2.2 | (with_reducible refine Kd.C_alloc ?_ _) | (with_reducible refine Kd.C_drewN ?_ _) | (with_reducible refine Kd.C_drew ?_))); (case side4 => exact (Kd.R_reads' HO_9.out).2.1); rintro e w56 ⟨rfl, hb⟩; refine ⟨_, rfl, ?_⟩; have n0_ := Aside0.mk (Kd.R_below (by (with_reducible repeat (first | apply Kd.R_alloc | apply Kd.R_drewN | apply Kd.R_drew)); exact HO_9.out) hb); have n1_ := Aside0.mk (Kd.S_below (by (with_reducible repeat (first | apply Kd.S_alloc | apply Kd.S_drewN | apply Kd.S_drew)); exact HO_215002.out) hb); have n2_ := Aside0.mk (blk_below (g := gb198) (o := .cells #[.int .i64 a0_0, .int .i64 a0_1, .slice A0_2 l0_2.length c0_2, .int .i64 a0_3, .int .u32 a0_4] 37 (0, 0)) (by (with_reducible repeat (first | refine blk_drewN ?_ _ | refine blk_drew ?_ | refine blk_alloc ?_ _)); exact BK198.out) hb); have n3_ := Aside0.mk (blk_below (g := gb214) (o := .cells #[.int .i64 t206, .int .i64 t207, .slice Ao30 t208.length co30, .int .i64 t211, .int .u32 t212] 37 (0, 0)) (by (with_reducible repeat (first | refine blk_drewN ?_ _ | refine blk_drew ?_ | refine blk_alloc ?_ _)); exact BK214.out) hb); have n4_ := Aside0.mk (below_step (by repeat (first | (with_reducible first | exact HB.out | apply below_alloc | apply pw_below_drewN | apply below_drew1 | refine below_set ?_ GE198.out | refine below_set ?_ GE214.out) | exact HB.out)) hb); clear HO_9; clear HO_215002; clear BK198; clear BK214; clear HB; have HO_9 := n0_; have HO_215002 := n1_; have BK198 := n2_; have BK214 := n3_; have HB := n4_; clear n0_ n1_ n2_ n3_ n4_; (try clear hb); (try clear hb2); (try clear hk); (try clear hi)))
                              go_ret
                              exact ⟨by first | rfl | (simp [errW_none, errW_some] <;> rfl) | (simp [*, errW_none, errW_some] <;> rfl), by repeat (first | (with_reducible first | exact HB.out | apply below_alloc | apply pw_below_drewN | apply below_drew1 | refine below_set ?_ GE198.out | refine below_set ?_ GE214.out) | exact HB.out)⟩
                            · replace c50 := Bool.eq_false_iff.mpr c50
                              subst c50
                              have H1 : (some false) = some r := by rw [if_neg (show ¬ (false = true) by decide)] at H; exact H
                              clear H
                              have H := H1
                              clear H1
                              obtain rfl := Option.some.inj H
                              have hnb57 := NB198_214.out
                              have hnc57 := NB214_198.out
                              have hcz58_0 : wc.cell? ⟨gb198, 0, none⟩ = some (.int .i64 a0_0) := (blk_cell BK198.out 0).trans rfl
                              have hcz58_1 : wc.cell? ⟨gb198, 1, none⟩ = some (.int .i64 a0_1) := (blk_cell BK198.out 1).trans rfl
                              have hcz58_2 : wc.cell? ⟨gb198, 2, none⟩ = some (.slice A0_2 l0_2.length c0_2) := (blk_cell BK198.out 2).trans rfl
                              have hcz58_3 : wc.cell? ⟨gb198, 3, none⟩ = some (.int .i64 a0_3) := (blk_cell BK198.out 3).trans rfl
                              have hcz58_4 : wc.cell? ⟨gb198, 4, none⟩ = some (.int .u32 a0_4) := (blk_cell BK198.out 4).trans rfl
                              have hfz58_0 := blk_frozen BK198.out 0
                              have hfz58_1 := blk_frozen BK198.out 1
                              have hfz58_2 := blk_frozen BK198.out 2
                              have hfz58_3 := blk_frozen BK198.out 3
                              have hfz58_4 := blk_frozen BK198.out 4
                              obtain ⟨Ao59, co59, eo59⟩ := Kd.R_slice HO_9.out
                              subst eo59
                              go_wp2_with (first | ((with_reducible refine gate_callee (f := 35) rfl ?_); refine goesL_ (some 115) rfl rfl Try.func35 (by kernel_rfl) rfl #[.agg #[.int .i64 a0_0, .int .i64 a0_1, .slice A0_2 l0_2.length c0_2, .int .i64 a0_3, .int .u32 a0_4], .slice Ao59 t201.length co59] rfl (by (try simp only [List.map_toArray, List.map_cons, List.map_nil]); first | done | rfl | (simp only [List.length_drop, List.length_take]; rfl)) ?_; (with_reducible refine (tally_Place.calls kj34 a0_0 a0_1 _ _ l0_2 a0_3 a0_4 _ _ t201 t217 t218 _ ?side1 ?side2 ?side3 ?side4 A45.out).mono ?_); (case side1 => repeat (first | exact (Kd.C_below HR0_2.out HB.out) | (with_reducible refine Kd.C_alloc ?_ _) | (with_reducible refine Kd.C_drewN ?_ _) | (with_reducible refine Kd.C_drew ?_))); (case side2 => exact HC0_2.out); (case side3 => repeat (first | exact (Kd.R_reads' HO_9.out).2.2 | (with_reducible refine Kd.C_alloc ?_ _) | (with_reducible refine Kd.C_drewN ?_ _) | (with_reducible refine Kd.C_drew ?_))); (case side4 => exact (Kd.R_reads' HO_9.out).2.1); rintro e w60 ⟨rfl, hb⟩; refine ⟨_, rfl, ?_⟩; have n0_ := Aside0.mk (Kd.R_below (by (with_reducible repeat (first | apply Kd.R_alloc | apply Kd.R_drewN | apply Kd.R_drew)); exact HO_9.out) hb); have n1_ := Aside0.mk (Kd.S_below (by (with_reducible repeat (first | apply Kd.S_alloc | apply Kd.S_drewN | apply Kd.S_drew)); exact HO_215002.out) hb); have n2_ := Aside0.mk (blk_below (g := gb198) (o := .cells #[.int .i64 a0_0, .int .i64 a0_1, .slice A0_2 l0_2.length c0_2, .int .i64 a0_3, .int .u32 a0_4] 37 (0, 0)) (by (with_reducible repeat (first | refine blk_drewN ?_ _ | refine blk_drew ?_ | refine blk_alloc ?_ _)); exact BK198.out) hb); have n3_ := Aside0.mk (blk_below (g := gb214) (o := .cells #[.int .i64 t206, .int .i64 t207, .slice Ao30 t208.length co30, .int .i64 t211, .int .u32 t212] 37 (0, 0)) (by (with_reducible repeat (first | refine blk_drewN ?_ _ | refine blk_drew ?_ | refine blk_alloc ?_ _)); exact BK214.out) hb); have n4_ := Aside0.mk (below_step (by repeat (first | (with_reducible first | exact HB.out | apply below_alloc | apply pw_below_drewN | apply below_drew1 | refine below_set ?_ GE198.out | refine below_set ?_ GE214.out) | exact HB.out)) hb); clear HO_9; clear HO_215002; clear BK198; clear BK214; clear HB; have HO_9 := n0_; have HO_215002 := n1_; have BK198 := n2_; have BK214 := n3_; have HB := n4_; clear n0_ n1_ n2_ n3_ n4_; (try clear hb); (try clear hb2); (try clear hk); (try clear hi); have hcz61_0 : w60.cell? ⟨gb198, 0, none⟩ = some (.int .i64 a0_0) := (blk_cell BK198.out 0).trans rfl; have hcz61_1 : w60.cell? ⟨gb198, 1, none⟩ = some (.int .i64 a0_1) := (blk_cell BK198.out 1).trans rfl; have hcz61_2 : w60.cell? ⟨gb198, 2, none⟩ = some (.slice A0_2 l0_2.length c0_2) := (blk_cell BK198.out 2).trans rfl; have hcz61_3 : w60.cell? ⟨gb198, 3, none⟩ = some (.int .i64 a0_3) := (blk_cell BK198.out 3).trans rfl; have hcz61_4 : w60.cell? ⟨gb198, 4, none⟩ = some (.int .u32 a0_4) := (blk_cell BK198.out 4).trans rfl; have hfz61_0 := blk_frozen BK198.out 0; have hfz61_1 := blk_frozen BK198.out 1; have hfz61_2 := blk_frozen BK198.out 2; have hfz61_3 := blk_frozen BK198.out 3; have hfz61_4 := blk_frozen BK198.out 4) | ((with_reducible refine gate_callee (f := 18) rfl ?_); refine goesL_ (some 121) rfl rfl Try.func18 (by kernel_rfl) rfl #[.agg #[.int .i64 a0_0, .int .i64 a0_1, .slice A0_2 l0_2.length c0_2, .int .i64 a0_3, .int .u32 a0_4], .slice Ao59 t201.length co59] rfl (by (try simp only [List.map_toArray, List.map_cons, List.map_nil]); first | done | rfl | (simp only [List.length_drop, List.length_take]; rfl)) ?_; (with_reducible refine (machine_Run.calls kj34 a0_0 a0_1 _ _ l0_2 a0_3 a0_4 _ _ t201 t219 false t221 _ ?side1 ?side2 ?side3 ?side4 A46.out).mono ?_); (case side1 => repeat (first | exact (Kd.C_below HR0_2.out HB.out) | (with_reducible refine Kd.C_alloc ?_ _) | (with_reducible refine Kd.C_drewN ?_ _) | (with_reducible refine Kd.C_drew ?_))); (case side2 => exact HC0_2.out); (case side3 => repeat (first | exact (Kd.R_reads' HO_9.out).2.2 | (with_reducible refine Kd.C_alloc ?_ _) | (with_reducible refine Kd.C_drewN ?_ _) | (with_reducible refine Kd.C_drew ?_))); (case side4 => exact (Kd.R_reads' HO_9.out).2.1); rintro e w62 ⟨rfl, hb⟩; refine ⟨_, rfl, ?_⟩; have n0_ := Aside0.mk (Kd.R_below (by (with_reducible repeat (first | apply Kd.R_alloc | apply Kd.R_drewN | apply Kd.R_drew)); exact HO_9.out) hb); have n1_ := Aside0.mk (Kd.S_below (by (with_reducible repeat (first | apply Kd.S_alloc | apply Kd.S_drewN | apply Kd.S_drew)); exact HO_215002.out) hb); have n2_ := Aside0.mk (blk_below (g := gb198) (o := .cells #[.int .i64 a0_0, .int .i64 a0_1, .slice A0_2 l0_2.length c0_2, .int .i64 a0_3, .int .u32 a0_4] 37 (0, 0)) (by (with_reducible repeat (first | refine blk_drewN ?_ _ | refine blk_drew ?_ | refine blk_alloc ?_ _)); exact BK198.out) hb); have n3_ := Aside0.mk (blk_below (g := gb214) (o := .cells #[.int .i64 t206, .int .i64 t207, .slice Ao30 t208.length co30, .int .i64 t211, .int .u32 t212] 37 (0, 0)) (by (with_reducible repeat (first | refine blk_drewN ?_ _ | refine blk_drew ?_ | refine blk_alloc ?_ _)); exact BK214.out) hb); have n4_ := Aside0.mk (below_step (by repeat (first | (with_reducible first | exact HB.out | apply below_alloc | apply pw_below_drewN | apply below_drew1 | refine below_set ?_ GE198.out | refine below_set ?_ GE214.out) | exact HB.out)) hb); clear HO_9; clear HO_215002; clear BK198; clear BK214; clear HB; have HO_9 := n0_; have HO_215002 := n1_; have BK198 := n2_; have BK214 := n3_; have HB := n4_; clear n0_ n1_ n2_ n3_ n4_; (try clear hb); (try clear hb2); (try clear hk); (try clear hi)))
                              go_ret
                              exact ⟨by first | rfl | (simp [errW_none, errW_some] <;> rfl) | (simp [*, errW_none, errW_some] <;> rfl), by repeat (first | (with_reducible first | exact HB.out | apply below_alloc | apply pw_below_drewN | apply below_drew1 | refine below_set ?_ GE198.out | refine below_set ?_ GE214.out) | exact HB.out)⟩
                          · rw [if_neg c49] at H
                            have c49b0 : (t217 == a2) = false := beq_eq_false_iff_ne.mpr c49
                            have c49b1 : (t217 != a2) = true := bne_iff_ne.mpr c49
                            obtain rfl := Option.some.inj H
                            have hnb63 := NB198_214.out
                            have hnc63 := NB214_198.out
                            have hcz64_0 : wc.cell? ⟨gb198, 0, none⟩ = some (.int .i64 a0_0) := (blk_cell BK198.out 0).trans rfl
                            have hcz64_1 : wc.cell? ⟨gb198, 1, none⟩ = some (.int .i64 a0_1) := (blk_cell BK198.out 1).trans rfl
                            have hcz64_2 : wc.cell? ⟨gb198, 2, none⟩ = some (.slice A0_2 l0_2.length c0_2) := (blk_cell BK198.out 2).trans rfl
                            have hcz64_3 : wc.cell? ⟨gb198, 3, none⟩ = some (.int .i64 a0_3) := (blk_cell BK198.out 3).trans rfl
                            have hcz64_4 : wc.cell? ⟨gb198, 4, none⟩ = some (.int .u32 a0_4) := (blk_cell BK198.out 4).trans rfl
                            have hfz64_0 := blk_frozen BK198.out 0
                            have hfz64_1 := blk_frozen BK198.out 1
                            have hfz64_2 := blk_frozen BK198.out 2
                            have hfz64_3 := blk_frozen BK198.out 3
                            have hfz64_4 := blk_frozen BK198.out 4
                            obtain ⟨Ao65, co65, eo65⟩ := Kd.R_slice HO_9.out
                            subst eo65
                            go_wp2_with (first | ((with_reducible refine gate_callee (f := 35) rfl ?_); refine goesL_ (some 115) rfl rfl Try.func35 (by kernel_rfl) rfl #[.agg #[.int .i64 a0_0, .int .i64 a0_1, .slice A0_2 l0_2.length c0_2, .int .i64 a0_3, .int .u32 a0_4], .slice Ao65 t201.length co65] rfl (by (try simp only [List.map_toArray, List.map_cons, List.map_nil]); first | done | rfl | (simp only [List.length_drop, List.length_take]; rfl)) ?_; (with_reducible refine (tally_Place.calls kj34 a0_0 a0_1 _ _ l0_2 a0_3 a0_4 _ _ t201 t217 t218 _ ?side1 ?side2 ?side3 ?side4 A45.out).mono ?_); (case side1 => repeat (first | exact (Kd.C_below HR0_2.out HB.out) | (with_reducible refine Kd.C_alloc ?_ _) | (with_reducible refine Kd.C_drewN ?_ _) | (with_reducible refine Kd.C_drew ?_))); (case side2 => exact HC0_2.out); (case side3 => repeat (first | exact (Kd.R_reads' HO_9.out).2.2 | (with_reducible refine Kd.C_alloc ?_ _) | (with_reducible refine Kd.C_drewN ?_ _) | (with_reducible refine Kd.C_drew ?_))); (case side4 => exact (Kd.R_reads' HO_9.out).2.1); rintro e w66 ⟨rfl, hb⟩; refine ⟨_, rfl, ?_⟩; have n0_ := Aside0.mk (Kd.R_below (by (with_reducible repeat (first | apply Kd.R_alloc | apply Kd.R_drewN | apply Kd.R_drew)); exact HO_9.out) hb); have n1_ := Aside0.mk (Kd.S_below (by (with_reducible repeat (first | apply Kd.S_alloc | apply Kd.S_drewN | apply Kd.S_drew)); exact HO_215002.out) hb); have n2_ := Aside0.mk (blk_below (g := gb198) (o := .cells #[.int .i64 a0_0, .int .i64 a0_1, .slice A0_2 l0_2.length c0_2, .int .i64 a0_3, .int .u32 a0_4] 37 (0, 0)) (by (with_reducible repeat (first | refine blk_drewN ?_ _ | refine blk_drew ?_ | refine blk_alloc ?_ _)); exact BK198.out) hb); have n3_ := Aside0.mk (blk_below (g := gb214) (o := .cells #[.int .i64 t206, .int .i64 t207, .slice Ao30 t208.length co30, .int .i64 t211, .int .u32 t212] 37 (0, 0)) (by (with_reducible repeat (first | refine blk_drewN ?_ _ | refine blk_drew ?_ | refine blk_alloc ?_ _)); exact BK214.out) hb); have n4_ := Aside0.mk (below_step (by repeat (first | (with_reducible first | exact HB.out | apply below_alloc | apply pw_below_drewN | apply below_drew1 | refine below_set ?_ GE198.out | refine below_set ?_ GE214.out) | exact HB.out)) hb); clear HO_9; clear HO_215002; clear BK198; clear BK214; clear HB; have HO_9 := n0_; have HO_215002 := n1_; have BK198 := n2_; have BK214 := n3_; have HB := n4_; clear n0_ n1_ n2_ n3_ n4_; (try clear hb); (try clear hb2); (try clear hk); (try clear hi); have hcz67_0 : w66.cell? ⟨gb198, 0, none⟩ = some (.int .i64 a0_0) := (blk_cell BK198.out 0).trans rfl; have hcz67_1 : w66.cell? ⟨gb198, 1, none⟩ = some (.int .i64 a0_1) := (blk_cell BK198.out 1).trans rfl; have hcz67_2 : w66.cell? ⟨gb198, 2, none⟩ = some (.slice A0_2 l0_2.length c0_2) := (blk_cell BK198.out 2).trans rfl; have hcz67_3 : w66.cell? ⟨gb198, 3, none⟩ = some (.int .i64 a0_3) := (blk_cell BK198.out 3).trans rfl; have hcz67_4 : w66.cell? ⟨gb198, 4, none⟩ = some (.int .u32 a0_4) := (blk_cell BK198.out 4).trans rfl; have hfz67_0 := blk_frozen BK198.out 0; have hfz67_1 := blk_frozen BK198.out 1; have hfz67_2 := blk_frozen BK198.out 2; have hfz67_3 := blk_frozen BK198.out 3; have hfz67_4 := blk_frozen BK198.out 4) | ((with_reducible refine gate_callee (f := 18) rfl ?_); refine goesL_ (some 121) rfl rfl Try.func18 (by kernel_rfl) rfl #[.agg #[.int .i64 a0_0, .int .i64 a0_1, .slice A0_2 l0_2.length c0_2, .int .i64 a0_3, .int .u32 a0_4], .slice Ao65 t201.length co65] rfl (by (try simp only [List.map_toArray, List.map_cons, List.map_nil]); first | done | rfl | (simp only [List.length_drop, List.length_take]; rfl)) ?_; (with_reducible refine (machine_Run.calls kj34 a0_0 a0_1 _ _ l0_2 a0_3 a0_4 _ _ t201 t219 t220 t221 _ ?side1 ?side2 ?side3 ?side4 A46.out).mono ?_); (case side1 => repeat (first | exact (Kd.C_below HR0_2.out HB.out) | (with_reducible refine Kd.C_alloc ?_ _) | (with_reducible refine Kd.C_drewN ?_ _) | (with_reducible refine Kd.C_drew ?_))); (case side2 => exact HC0_2.out); (case side3 => repeat (first | exact (Kd.R_reads' HO_9.out).2.2 | (with_reducible refine Kd.C_alloc ?_ _) | (with_reducible refine Kd.C_drewN ?_ _) | (with_reducible refine Kd.C_drew ?_))); (case side4 => exact (Kd.R_reads' HO_9.out).2.1); rintro e w68 ⟨rfl, hb⟩; refine ⟨_, rfl, ?_⟩; have n0_ := Aside0.mk (Kd.R_below (by (with_reducible repeat (first | apply Kd.R_alloc | apply Kd.R_drewN | apply Kd.R_drew)); exact HO_9.out) hb); have n1_ := Aside0.mk (Kd.S_below (by (with_reducible repeat (first | apply Kd.S_alloc | apply Kd.S_drewN | apply Kd.S_drew)); exact HO_215002.out) hb); have n2_ := Aside0.mk (blk_below (g := gb198) (o := .cells #[.int .i64 a0_0, .int .i64 a0_1, .slice A0_2 l0_2.length c0_2, .int .i64 a0_3, .int .u32 a0_4] 37 (0, 0)) (by (with_reducible repeat (first | refine blk_drewN ?_ _ | refine blk_drew ?_ | refine blk_alloc ?_ _)); exact BK198.out) hb); have n3_ := Aside0.mk (blk_below (g := gb214) (o := .cells #[.int .i64 t206, .int .i64 t207, .slice Ao30 t208.length co30, .int .i64 t211, .int .u32 t212] 37 (0, 0)) (by (with_reducible repeat (first | refine blk_drewN ?_ _ | refine blk_drew ?_ | refine blk_alloc ?_ _)); exact BK214.out) hb); have n4_ := Aside0.mk (below_step (by repeat (first | (with_reducible first | exact HB.out | apply below_alloc | apply pw_below_drewN | apply below_drew1 | refine below_set ?_ GE198.out | refine below_set ?_ GE214.out) | exact HB.out)) hb); clear HO_9; clear HO_215002; clear BK198; clear BK214; clear HB; have HO_9 := n0_; have HO_215002 := n1_; have BK198 := n2_; have BK214 := n3_; have HB := n4_; clear n0_ n1_ n2_ n3_ n4_; (try clear hb); (try clear hb2); (try clear hk); (try clear hi)))
                            go_ret
                            exact ⟨by first | rfl | (simp [errW_none, errW_some] <;> rfl) | (simp [*, errW_none, errW_some] <;> rfl), by repeat (first | (with_reducible first | exact HB.out | apply below_alloc | apply pw_below_drewN | apply below_drew1 | refine below_set ?_ GE198.out | refine below_set ?_ GE214.out) | exact HB.out)⟩
                        · rw [if_neg c48] at H
                          have c48b0 : (t221 == 0) = false := beq_eq_false_iff_ne.mpr c48
                          have c48b1 : (t221 != 0) = true := bne_iff_ne.mpr c48
                          obtain rfl := Option.some.inj H
                          have hnb69 := NB198_214.out
                          have hnc69 := NB214_198.out
                          have hcz70_0 : wc.cell? ⟨gb198, 0, none⟩ = some (.int .i64 a0_0) := (blk_cell BK198.out 0).trans rfl
                          have hcz70_1 : wc.cell? ⟨gb198, 1, none⟩ = some (.int .i64 a0_1) := (blk_cell BK198.out 1).trans rfl
                          have hcz70_2 : wc.cell? ⟨gb198, 2, none⟩ = some (.slice A0_2 l0_2.length c0_2) := (blk_cell BK198.out 2).trans rfl
                          have hcz70_3 : wc.cell? ⟨gb198, 3, none⟩ = some (.int .i64 a0_3) := (blk_cell BK198.out 3).trans rfl
                          have hcz70_4 : wc.cell? ⟨gb198, 4, none⟩ = some (.int .u32 a0_4) := (blk_cell BK198.out 4).trans rfl
                          have hfz70_0 := blk_frozen BK198.out 0
                          have hfz70_1 := blk_frozen BK198.out 1
                          have hfz70_2 := blk_frozen BK198.out 2
                          have hfz70_3 := blk_frozen BK198.out 3
                          have hfz70_4 := blk_frozen BK198.out 4
                          obtain ⟨Ao71, co71, eo71⟩ := Kd.R_slice HO_9.out
                          subst eo71
                          go_wp2_with (first | ((with_reducible refine gate_callee (f := 35) rfl ?_); refine goesL_ (some 115) rfl rfl Try.func35 (by kernel_rfl) rfl #[.agg #[.int .i64 a0_0, .int .i64 a0_1, .slice A0_2 l0_2.length c0_2, .int .i64 a0_3, .int .u32 a0_4], .slice Ao71 t201.length co71] rfl (by (try simp only [List.map_toArray, List.map_cons, List.map_nil]); first | done | rfl | (simp only [List.length_drop, List.length_take]; rfl)) ?_; (with_reducible refine (tally_Place.calls kj34 a0_0 a0_1 _ _ l0_2 a0_3 a0_4 _ _ t201 t217 t218 _ ?side1 ?side2 ?side3 ?side4 A45.out).mono ?_); (case side1 => repeat (first | exact (Kd.C_below HR0_2.out HB.out) | (with_reducible refine Kd.C_alloc ?_ _) | (with_reducible refine Kd.C_drewN ?_ _) | (with_reducible refine Kd.C_drew ?_))); (case side2 => exact HC0_2.out); (case side3 => repeat (first | exact (Kd.R_reads' HO_9.out).2.2 | (with_reducible refine Kd.C_alloc ?_ _) | (with_reducible refine Kd.C_drewN ?_ _) | (with_reducible refine Kd.C_drew ?_))); (case side4 => exact (Kd.R_reads' HO_9.out).2.1); rintro e w72 ⟨rfl, hb⟩; refine ⟨_, rfl, ?_⟩; have n0_ := Aside0.mk (Kd.R_below (by (with_reducible repeat (first | apply Kd.R_alloc | apply Kd.R_drewN | apply Kd.R_drew)); exact HO_9.out) hb); have n1_ := Aside0.mk (Kd.S_below (by (with_reducible repeat (first | apply Kd.S_alloc | apply Kd.S_drewN | apply Kd.S_drew)); exact HO_215002.out) hb); have n2_ := Aside0.mk (blk_below (g := gb198) (o := .cells #[.int .i64 a0_0, .int .i64 a0_1, .slice A0_2 l0_2.length c0_2, .int .i64 a0_3, .int .u32 a0_4] 37 (0, 0)) (by (with_reducible repeat (first | refine blk_drewN ?_ _ | refine blk_drew ?_ | refine blk_alloc ?_ _)); exact BK198.out) hb); have n3_ := Aside0.mk (blk_below (g := gb214) (o := .cells #[.int .i64 t206, .int .i64 t207, .slice Ao30 t208.length co30, .int .i64 t211, .int .u32 t212] 37 (0, 0)) (by (with_reducible repeat (first | refine blk_drewN ?_ _ | refine blk_drew ?_ | refine blk_alloc ?_ _)); exact BK214.out) hb); have n4_ := Aside0.mk (below_step (by repeat (first | (with_reducible first | exact HB.out | apply below_alloc | apply pw_below_drewN | apply below_drew1 | refine below_set ?_ GE198.out | refine below_set ?_ GE214.out) | exact HB.out)) hb); clear HO_9; clear HO_215002; clear BK198; clear BK214; clear HB; have HO_9 := n0_; have HO_215002 := n1_; have BK198 := n2_; have BK214 := n3_; have HB := n4_; clear n0_ n1_ n2_ n3_ n4_; (try clear hb); (try clear hb2); (try clear hk); (try clear hi); have hcz73_0 : w72.cell? ⟨gb198, 0, none⟩ = some (.int .i64 a0_0) := (blk_cell BK198.out 0).trans rfl; have hcz73_1 : w72.cell? ⟨gb198, 1, none⟩ = some (.int .i64 a0_1) := (blk_cell BK198.out 1).trans rfl; have hcz73_2 : w72.cell? ⟨gb198, 2, none⟩ = some (.slice A0_2 l0_2.length c0_2) := (blk_cell BK198.out 2).trans rfl; have hcz73_3 : w72.cell? ⟨gb198, 3, none⟩ = some (.int .i64 a0_3) := (blk_cell BK198.out 3).trans rfl; have hcz73_4 : w72.cell? ⟨gb198, 4, none⟩ = some (.int .u32 a0_4) := (blk_cell BK198.out 4).trans rfl; have hfz73_0 := blk_frozen BK198.out 0; have hfz73_1 := blk_frozen BK198.out 1; have hfz73_2 := blk_frozen BK198.out 2; have hfz73_3 := blk_frozen BK198.out 3; have hfz73_4 := blk_frozen BK198.out 4) | ((with_reducible refine gate_callee (f := 18) rfl ?_); refine goesL_ (some 121) rfl rfl Try.func18 (by kernel_rfl) rfl #[.agg #[.int .i64 a0_0, .int .i64 a0_1, .slice A0_2 l0_2.length c0_2, .int .i64 a0_3, .int .u32 a0_4], .slice Ao71 t201.length co71] rfl (by (try simp only [List.map_toArray, List.map_cons, List.map_nil]); first | done | rfl | (simp only [List.length_drop, List.length_take]; rfl)) ?_; (with_reducible refine (machine_Run.calls kj34 a0_0 a0_1 _ _ l0_2 a0_3 a0_4 _ _ t201 t219 t220 t221 _ ?side1 ?side2 ?side3 ?side4 A46.out).mono ?_); (case side1 => repeat (first | exact (Kd.C_below HR0_2.out HB.out) | (with_reducible refine Kd.C_alloc ?_ _) | (with_reducible refine Kd.C_drewN ?_ _) | (with_reducible refine Kd.C_drew ?_))); (case side2 => exact HC0_2.out); (case side3 => repeat (first | exact (Kd.R_reads' HO_9.out).2.2 | (with_reducible refine Kd.C_alloc ?_ _) | (with_reducible refine Kd.C_drewN ?_ _) | (with_reducible refine Kd.C_drew ?_))); (case side4 => exact (Kd.R_reads' HO_9.out).2.1); rintro e w74 ⟨rfl, hb⟩; refine ⟨_, rfl, ?_⟩; have n0_ := Aside0.mk (Kd.R_below (by (with_reducible repeat (first | apply Kd.R_alloc | apply Kd.R_drewN | apply Kd.R_drew)); exact HO_9.out) hb); have n1_ := Aside0.mk (Kd.S_below (by (with_reducible repeat (first | apply Kd.S_alloc | apply Kd.S_drewN | apply Kd.S_drew)); exact HO_215002.out) hb); have n2_ := Aside0.mk (blk_below (g := gb198) (o := .cells #[.int .i64 a0_0, .int .i64 a0_1, .slice A0_2 l0_2.length c0_2, .int .i64 a0_3, .int .u32 a0_4] 37 (0, 0)) (by (with_reducible repeat (first | refine blk_drewN ?_ _ | refine blk_drew ?_ | refine blk_alloc ?_ _)); exact BK198.out) hb); have n3_ := Aside0.mk (blk_below (g := gb214) (o := .cells #[.int .i64 t206, .int .i64 t207, .slice Ao30 t208.length co30, .int .i64 t211, .int .u32 t212] 37 (0, 0)) (by (with_reducible repeat (first | refine blk_drewN ?_ _ | refine blk_drew ?_ | refine blk_alloc ?_ _)); exact BK214.out) hb); have n4_ := Aside0.mk (below_step (by repeat (first | (with_reducible first | exact HB.out | apply below_alloc | apply pw_below_drewN | apply below_drew1 | refine below_set ?_ GE198.out | refine below_set ?_ GE214.out) | exact HB.out)) hb); clear HO_9; clear HO_215002; clear BK198; clear BK214; clear HB; have HO_9 := n0_; have HO_215002 := n1_; have BK198 := n2_; have BK214 := n3_; have HB := n4_; clear n0_ n1_ n2_ n3_ n4_; (try clear hb); (try clear hb2); (try clear hk); (try clear hi)))
                          go_ret
                          exact ⟨by first | rfl | (simp [errW_none, errW_some] <;> rfl) | (simp [*, errW_none, errW_some] <;> rfl), by repeat (first | (with_reducible first | exact HB.out | apply below_alloc | apply pw_below_drewN | apply below_drew1 | refine below_set ?_ GE198.out | refine below_set ?_ GE214.out) | exact HB.out)⟩
                      · rw [if_neg c47] at H
                        have c47b0 : (t218 == 0) = false := beq_eq_false_iff_ne.mpr c47
                        have c47b1 : (t218 != 0) = true := bne_iff_ne.mpr c47
                        obtain rfl := Option.some.inj H
                        have hnb75 := NB198_214.out
                        have hnc75 := NB214_198.out
                        have hcz76_0 : wc.cell? ⟨gb198, 0, none⟩ = some (.int .i64 a0_0) := (blk_cell BK198.out 0).trans rfl
                        have hcz76_1 : wc.cell? ⟨gb198, 1, none⟩ = some (.int .i64 a0_1) := (blk_cell BK198.out 1).trans rfl
                        have hcz76_2 : wc.cell? ⟨gb198, 2, none⟩ = some (.slice A0_2 l0_2.length c0_2) := (blk_cell BK198.out 2).trans rfl
                        have hcz76_3 : wc.cell? ⟨gb198, 3, none⟩ = some (.int .i64 a0_3) := (blk_cell BK198.out 3).trans rfl
                        have hcz76_4 : wc.cell? ⟨gb198, 4, none⟩ = some (.int .u32 a0_4) := (blk_cell BK198.out 4).trans rfl
                        have hfz76_0 := blk_frozen BK198.out 0
                        have hfz76_1 := blk_frozen BK198.out 1
                        have hfz76_2 := blk_frozen BK198.out 2
                        have hfz76_3 := blk_frozen BK198.out 3
                        have hfz76_4 := blk_frozen BK198.out 4
                        obtain ⟨Ao77, co77, eo77⟩ := Kd.R_slice HO_9.out
                        subst eo77
                        go_wp2_with (first | ((with_reducible refine gate_callee (f := 35) rfl ?_); refine goesL_ (some 115) rfl rfl Try.func35 (by kernel_rfl) rfl #[.agg #[.int .i64 a0_0, .int .i64 a0_1, .slice A0_2 l0_2.length c0_2, .int .i64 a0_3, .int .u32 a0_4], .slice Ao77 t201.length co77] rfl (by (try simp only [List.map_toArray, List.map_cons, List.map_nil]); first | done | rfl | (simp only [List.length_drop, List.length_take]; rfl)) ?_; (with_reducible refine (tally_Place.calls kj34 a0_0 a0_1 _ _ l0_2 a0_3 a0_4 _ _ t201 t217 t218 _ ?side1 ?side2 ?side3 ?side4 A45.out).mono ?_); (case side1 => repeat (first | exact (Kd.C_below HR0_2.out HB.out) | (with_reducible refine Kd.C_alloc ?_ _) | (with_reducible refine Kd.C_drewN ?_ _) | (with_reducible refine Kd.C_drew ?_))); (case side2 => exact HC0_2.out); (case side3 => repeat (first | exact (Kd.R_reads' HO_9.out).2.2 | (with_reducible refine Kd.C_alloc ?_ _) | (with_reducible refine Kd.C_drewN ?_ _) | (with_reducible refine Kd.C_drew ?_))); (case side4 => exact (Kd.R_reads' HO_9.out).2.1); rintro e w78 ⟨rfl, hb⟩; refine ⟨_, rfl, ?_⟩; have n0_ := Aside0.mk (Kd.R_below (by (with_reducible repeat (first | apply Kd.R_alloc | apply Kd.R_drewN | apply Kd.R_drew)); exact HO_9.out) hb); have n1_ := Aside0.mk (Kd.S_below (by (with_reducible repeat (first | apply Kd.S_alloc | apply Kd.S_drewN | apply Kd.S_drew)); exact HO_215002.out) hb); have n2_ := Aside0.mk (blk_below (g := gb198) (o := .cells #[.int .i64 a0_0, .int .i64 a0_1, .slice A0_2 l0_2.length c0_2, .int .i64 a0_3, .int .u32 a0_4] 37 (0, 0)) (by (with_reducible repeat (first | refine blk_drewN ?_ _ | refine blk_drew ?_ | refine blk_alloc ?_ _)); exact BK198.out) hb); have n3_ := Aside0.mk (blk_below (g := gb214) (o := .cells #[.int .i64 t206, .int .i64 t207, .slice Ao30 t208.length co30, .int .i64 t211, .int .u32 t212] 37 (0, 0)) (by (with_reducible repeat (first | refine blk_drewN ?_ _ | refine blk_drew ?_ | refine blk_alloc ?_ _)); exact BK214.out) hb); have n4_ := Aside0.mk (below_step (by repeat (first | (with_reducible first | exact HB.out | apply below_alloc | apply pw_below_drewN | apply below_drew1 | refine below_set ?_ GE198.out | refine below_set ?_ GE214.out) | exact HB.out)) hb); clear HO_9; clear HO_215002; clear BK198; clear BK214; clear HB; have HO_9 := n0_; have HO_215002 := n1_; have BK198 := n2_; have BK214 := n3_; have HB := n4_; clear n0_ n1_ n2_ n3_ n4_; (try clear hb); (try clear hb2); (try clear hk); (try clear hi); have hcz79_0 : w78.cell? ⟨gb198, 0, none⟩ = some (.int .i64 a0_0) := (blk_cell BK198.out 0).trans rfl; have hcz79_1 : w78.cell? ⟨gb198, 1, none⟩ = some (.int .i64 a0_1) := (blk_cell BK198.out 1).trans rfl; have hcz79_2 : w78.cell? ⟨gb198, 2, none⟩ = some (.slice A0_2 l0_2.length c0_2) := (blk_cell BK198.out 2).trans rfl; have hcz79_3 : w78.cell? ⟨gb198, 3, none⟩ = some (.int .i64 a0_3) := (blk_cell BK198.out 3).trans rfl; have hcz79_4 : w78.cell? ⟨gb198, 4, none⟩ = some (.int .u32 a0_4) := (blk_cell BK198.out 4).trans rfl; have hfz79_0 := blk_frozen BK198.out 0; have hfz79_1 := blk_frozen BK198.out 1; have hfz79_2 := blk_frozen BK198.out 2; have hfz79_3 := blk_frozen BK198.out 3; have hfz79_4 := blk_frozen BK198.out 4) | ((with_reducible refine gate_callee (f := 18) rfl ?_); refine goesL_ (some 121) rfl rfl Try.func18 (by kernel_rfl) rfl #[.agg #[.int .i64 a0_0, .int .i64 a0_1, .slice A0_2 l0_2.length c0_2, .int .i64 a0_3, .int .u32 a0_4], .slice Ao77 t201.length co77] rfl (by (try simp only [List.map_toArray, List.map_cons, List.map_nil]); first | done | rfl | (simp only [List.length_drop, List.length_take]; rfl)) ?_; (with_reducible refine (machine_Run.calls kj34 a0_0 a0_1 _ _ l0_2 a0_3 a0_4 _ _ t201 t219 t220 t221 _ ?side1 ?side2 ?side3 ?side4 A46.out).mono ?_); (case side1 => repeat (first | exact (Kd.C_below HR0_2.out HB.out) | (with_reducible refine Kd.C_alloc ?_ _) | (with_reducible refine Kd.C_drewN ?_ _) | (with_reducible refine Kd.C_drew ?_))); (case side2 => exact HC0_2.out); (case side3 => repeat (first | exact (Kd.R_reads' HO_9.out).2.2 | (with_reducible refine Kd.C_alloc ?_ _) | (with_reducible refine Kd.C_drewN ?_ _) | (with_reducible refine Kd.C_drew ?_))); (case side4 => exact (Kd.R_reads' HO_9.out).2.1); rintro e w80 ⟨rfl, hb⟩; refine ⟨_, rfl, ?_⟩; have n0_ := Aside0.mk (Kd.R_below (by (with_reducible repeat (first | apply Kd.R_alloc | apply Kd.R_drewN | apply Kd.R_drew)); exact HO_9.out) hb); have n1_ := Aside0.mk (Kd.S_below (by (with_reducible repeat (first | apply Kd.S_alloc | apply Kd.S_drewN | apply Kd.S_drew)); exact HO_215002.out) hb); have n2_ := Aside0.mk (blk_below (g := gb198) (o := .cells #[.int .i64 a0_0, .int .i64 a0_1, .slice A0_2 l0_2.length c0_2, .int .i64 a0_3, .int .u32 a0_4] 37 (0, 0)) (by (with_reducible repeat (first | refine blk_drewN ?_ _ | refine blk_drew ?_ | refine blk_alloc ?_ _)); exact BK198.out) hb); have n3_ := Aside0.mk (blk_below (g := gb214) (o := .cells #[.int .i64 t206, .int .i64 t207, .slice Ao30 t208.length co30, .int .i64 t211, .int .u32 t212] 37 (0, 0)) (by (with_reducible repeat (first | refine blk_drewN ?_ _ | refine blk_drew ?_ | refine blk_alloc ?_ _)); exact BK214.out) hb); have n4_ := Aside0.mk (below_step (by repeat (first | (with_reducible first | exact HB.out | apply below_alloc | apply pw_below_drewN | apply below_drew1 | refine below_set ?_ GE198.out | refine below_set ?_ GE214.out) | exact HB.out)) hb); clear HO_9; clear HO_215002; clear BK198; clear BK214; clear HB; have HO_9 := n0_; have HO_215002 := n1_; have BK198 := n2_; have BK214 := n3_; have HB := n4_; clear n0_ n1_ n2_ n3_ n4_; (try clear hb); (try clear hb2); (try clear hk); (try clear hi)))
                        go_ret
                        exact ⟨by first | rfl | (simp [errW_none, errW_some] <;> rfl) | (simp [*, errW_none, errW_some] <;> rfl), by repeat (first | (with_reducible first | exact HB.out | apply below_alloc | apply pw_below_drewN | apply below_drew1 | refine below_set ?_ GE198.out | refine below_set ?_ GE214.out) | exact HB.out)⟩
                    · rw [if_neg c44] at H
                      have c44b0 : (t204 == 0) = false := beq_eq_false_iff_ne.mpr c44
                      have c44b1 : (t204 != 0) = true := bne_iff_ne.mpr c44
                      obtain rfl := Option.some.inj H
                      obtain ⟨Ao81, co81, eo81⟩ := Kd.R_slice HO_9.out
                      subst eo81
                      go_wp2
                      go_ret
                      exact ⟨by first | rfl | (simp [errW_none, errW_some] <;> rfl) | (simp [*, errW_none, errW_some] <;> rfl), by repeat (first | (with_reducible first | exact HB.out | apply below_alloc | apply pw_below_drewN | apply below_drew1 | refine below_set ?_ GE198.out | refine below_set ?_ GE214.out) | exact HB.out)⟩

/-- THE ONE PURE STATEMENT of coppicerkeep_TallyBack: yours. -/
def coppicerkeep_TallyBack.Pure : Prop := ∀ (a0_0 : Int) (a0_1 : Int) (l0_2 : List (List Int)) (a0_3 : Int) (a0_4 : Int) (a1 : Int) (a2 : Int), ((Lit.int .i64 a0_0).wf = true) → ((Lit.int .i64 a0_1).wf = true) → (l0_2.length ≤ 9223372036854775807 ∧ l0_2.length * 24 ≤ 140737488351232 ∧ ∀ y_ ∈ l0_2, y_.length ≤ 9223372036854775807 ∧ y_.length * 8 ≤ 140737488351232 ∧ ∀ y__ ∈ y_, (Lit.int .i64 y__).wf = true) → ((Lit.int .i64 a0_3).wf = true) → ((Lit.int .u32 a0_4).wf = true) → ((Lit.int .i64 a1).wf = true) → ((Lit.int .i64 a2).wf = true) → ∃ k, coppicerkeep_TallyBack.f k a0_0 a0_1 l0_2 a0_3 a0_4 a1 a2 = some true
theorem coppicerkeep_TallyBack.walk (P : coppicerkeep_TallyBack.Pure) (a0_0 : Int) (a0_1 : Int) (A0_2 : Option Addr) (l0_2 : List (List Int)) (c0_2 : Nat) (a0_3 : Int) (a0_4 : Int) (a1 : Int) (a2 : Int) (w : World) (w0_0 : (Lit.int .i64 a0_0).wf = true) (w0_1 : (Lit.int .i64 a0_1).wf = true) (hr0_2 : Kd.C (Kd.slice 3 (Kd.int .i64)) w A0_2 l0_2.length l0_2) (hc0_2 : l0_2.length ≤ c0_2) (w0_2 : l0_2.length ≤ 9223372036854775807 ∧ l0_2.length * 24 ≤ 140737488351232 ∧ ∀ y_ ∈ l0_2, y_.length ≤ 9223372036854775807 ∧ y_.length * 8 ≤ 140737488351232 ∧ ∀ y__ ∈ y_, (Lit.int .i64 y__).wf = true) (w0_3 : (Lit.int .i64 a0_3).wf = true) (w0_4 : (Lit.int .u32 a0_4).wf = true) (w1 : (Lit.int .i64 a1).wf = true) (w2 : (Lit.int .i64 a2).wf = true) :
    Calls Try.prog 12 #[.agg #[.int .i64 a0_0, .int .i64 a0_1, .slice A0_2 l0_2.length c0_2, .int .i64 a0_3, .int .u32 a0_4], .int .i64 a1, .int .i64 a2] w fun e w' => e = .returned (.bool true) ∧ Below w.heap.size w w' := by
  obtain ⟨k, h⟩ := P a0_0 a0_1 l0_2 a0_3 a0_4 a1 a2 w0_0 w0_1 w0_2 w0_3 w0_4 w1 w2
  refine (coppicerkeep_TallyBack.calls k _ _ _ _ _ _ _ _ _ true w hr0_2 hc0_2 h).mono ?_
  rintro e w' ⟨rfl, hd⟩
  exact ⟨rfl, hd⟩

end Go.Proofs.Ytiiankjmeodjdaa.GC
