-- Written by ext.py, a program of this session.
import Derived.Test.YtiiankjmeodjdaaGC0
import Derived.Test.YtiiankjmeodjdaaGC3
import Derived.Test.YtiiankjmeodjdaaGC7
namespace Go.Proofs.Ytiiankjmeodjdaa.GC
open Go.RowKit Go.Proofs.YtiiankjmeodjdaaW.PrintWords Go.Proofs.YtiiankjmeodjdaaW.PrintLast Go.Proofs.YtiiankjmeodjdaaW.PrintMore
attribute [local go_sem] max2_int min2_int max_two min_two max_three min_three max_four min_four cellIs_set   -- for this text's walks alone
set_option linter.unusedVariables false
set_option linter.unusedSimpArgs false

/-! ### tally_Place: function 35 -/
mutual
def tally_Place.l0 : Nat → List Int → Int → Int → List Int → Int → Int → Int → Int → List (List Int) → Int → Int → Option (Int × Int)
  | 0, _, _, _, _, _, _, _, _, _, _, _ => none
  | k + 1, x1, x9, x10, x27, x28, x29, x186000, x186001, x186002, x186003, x186004 => if x29 < x28 then (if 0 ≤ x29 then (if x29 < (x27.length : Int) then ((tally_ways.f k x186000 x186001 x186002 x186003 x186004 (wrap64 ((wrap64 ((x1.length : Int) - 1)) - x29))).bind fun t190 => (tally_Place.l1 k x1 x9 x10 (rd x27 x29) t190 x27 x28 x29 (rd x27 x29) 0 x186000 x186001 x186002 x186003 x186004)) else (none)) else (none)) else (some (x9, 0))
def tally_Place.l1 : Nat → List Int → Int → Int → Int → List Int → List Int → Int → Int → Int → Int → Int → Int → List (List Int) → Int → Int → Option (Int × Int)
  | 0, _, _, _, _, _, _, _, _, _, _, _, _, _, _, _ => none
  | k + 1, x1, x9, x10, x12, x13, x27, x28, x29, x41, x42, x186000, x186001, x186002, x186003, x186004 => if x42 < x41 then (if 0 ≤ x10 then (if x10 < (x186002.length : Int) then (if 0 ≤ x42 then (if x42 < ((rd_L1 x186002 x10).length : Int) then (if 0 ≤ (rd (rd_L1 x186002 x10) x42) then (if (rd (rd_L1 x186002 x10) x42) < (x13.length : Int) then (tally_Place.l1 k x1 (wrap64 (x9 + (rd x13 (rd (rd_L1 x186002 x10) x42)))) x10 x12 x13 x27 x28 x29 x41 (wrap64 (x42 + 1)) x186000 x186001 x186002 x186003 x186004) else (none)) else (none)) else (none)) else (none)) else (none)) else (none)) else (if 0 ≤ x10 then (if x10 < (x186002.length : Int) then (if 0 ≤ x12 then (if x12 < ((rd_L1 x186002 x10).length : Int) then (tally_Place.l0 k x1 x9 (rd (rd_L1 x186002 x10) x12) x27 x28 (wrap64 (x29 + 1)) x186000 x186001 x186002 x186003 x186004) else (none)) else (none)) else (none)) else (none))
end
def tally_Place.f (k : Nat) (a0_0 : Int) (a0_1 : Int) (l0_2 : List (List Int)) (a0_3 : Int) (a0_4 : Int) (l1 : List Int) : Option (Int × Int) := (machine_Run.f k a0_0 a0_1 l0_2 a0_3 a0_4 l1).bind fun bt186 => (if bt186.2.2 = 0 then (tally_Place.l0 k l1 0 a0_3 l1 (l1.length : Int) 0 a0_0 a0_1 l0_2 a0_3 a0_4) else (some (0, bt186.2.2)))
theorem tally_Place.mono_l : ∀ k, (∀ y0 y1 y2 y3 y4 y5 y6 y7 y8 y9 y10, LeO (tally_Place.l0 k y0 y1 y2 y3 y4 y5 y6 y7 y8 y9 y10) (tally_Place.l0 (k + 1) y0 y1 y2 y3 y4 y5 y6 y7 y8 y9 y10)) ∧ (∀ y0 y1 y2 y3 y4 y5 y6 y7 y8 y9 y10 y11 y12 y13 y14, LeO (tally_Place.l1 k y0 y1 y2 y3 y4 y5 y6 y7 y8 y9 y10 y11 y12 y13 y14) (tally_Place.l1 (k + 1) y0 y1 y2 y3 y4 y5 y6 y7 y8 y9 y10 y11 y12 y13 y14))
  | 0 => ⟨fun _ _ _ _ _ _ _ _ _ _ _ r h => by simp [tally_Place.l0] at h, fun _ _ _ _ _ _ _ _ _ _ _ _ _ _ _ r h => by simp [tally_Place.l1] at h⟩
  | k + 1 => by
    obtain ⟨ih0, ih1⟩ := tally_Place.mono_l k
    refine ⟨?_, ?_⟩
    · intro y0 y1 y2 y3 y4 y5 y6 y7 y8 y9 y10
      unfold tally_Place.l0
      repeat' first
      | (with_reducible exact ih0 _ _ _ _ _ _ _ _ _ _ _)
      | (with_reducible exact ih1 _ _ _ _ _ _ _ _ _ _ _ _ _ _ _)
      | (with_reducible exact machine_Run.mono _ _ _ _ _ _ _)
      | (with_reducible exact tally_ways.mono _ _ _ _ _ _ _)
      | (with_reducible exact LeO.refl _)
      | (with_reducible exact LeO.none _)
      | (with_reducible refine LeO.ite ?_ ?_)
      | (with_reducible refine LeO.bind ?_ (fun _ => ?_))
      | exact ih0 _ _ _ _ _ _ _ _ _ _ _
      | exact ih1 _ _ _ _ _ _ _ _ _ _ _ _ _ _ _
      | exact machine_Run.mono _ _ _ _ _ _ _
      | exact tally_ways.mono _ _ _ _ _ _ _
      | exact LeO.none _
      | refine LeO.ite ?_ ?_
      | refine LeO.bind ?_ (fun _ => ?_)
    · intro y0 y1 y2 y3 y4 y5 y6 y7 y8 y9 y10 y11 y12 y13 y14
      unfold tally_Place.l1
      repeat' first
      | (with_reducible exact ih0 _ _ _ _ _ _ _ _ _ _ _)
      | (with_reducible exact ih1 _ _ _ _ _ _ _ _ _ _ _ _ _ _ _)
      | (with_reducible exact machine_Run.mono _ _ _ _ _ _ _)
      | (with_reducible exact tally_ways.mono _ _ _ _ _ _ _)
      | (with_reducible exact LeO.refl _)
      | (with_reducible exact LeO.none _)
      | (with_reducible refine LeO.ite ?_ ?_)
      | (with_reducible refine LeO.bind ?_ (fun _ => ?_))
      | exact ih0 _ _ _ _ _ _ _ _ _ _ _
      | exact ih1 _ _ _ _ _ _ _ _ _ _ _ _ _ _ _
      | exact machine_Run.mono _ _ _ _ _ _ _
      | exact tally_ways.mono _ _ _ _ _ _ _
      | exact LeO.none _
      | refine LeO.ite ?_ ?_
      | refine LeO.bind ?_ (fun _ => ?_)
theorem tally_Place.mono : ∀ a0 a1 a2 a3 a4 a5 k, LeO (tally_Place.f k a0 a1 a2 a3 a4 a5) (tally_Place.f (k + 1) a0 a1 a2 a3 a4 a5) := by
  intro a0 a1 a2 a3 a4 a5 k
  obtain ⟨ih0, ih1⟩ := tally_Place.mono_l k
  unfold tally_Place.f
  repeat' first
      | (with_reducible exact ih0 _ _ _ _ _ _ _ _ _ _ _)
      | (with_reducible exact ih1 _ _ _ _ _ _ _ _ _ _ _ _ _ _ _)
      | (with_reducible exact machine_Run.mono _ _ _ _ _ _ _)
      | (with_reducible exact tally_ways.mono _ _ _ _ _ _ _)
      | (with_reducible exact LeO.refl _)
      | (with_reducible exact LeO.none _)
      | (with_reducible refine LeO.ite ?_ ?_)
      | (with_reducible refine LeO.bind ?_ (fun _ => ?_))
      | exact ih0 _ _ _ _ _ _ _ _ _ _ _
      | exact ih1 _ _ _ _ _ _ _ _ _ _ _ _ _ _ _
      | exact machine_Run.mono _ _ _ _ _ _ _
      | exact tally_ways.mono _ _ _ _ _ _ _
      | exact LeO.none _
      | refine LeO.ite ?_ ?_
      | refine LeO.bind ?_ (fun _ => ?_)
set_option maxHeartbeats 8000000 in
set_option maxRecDepth 100000 in
theorem tally_Place.calls (k : Nat) (a0_0 : Int) (a0_1 : Int) (A0_2 : Option Addr) (c0_2 : Nat) (l0_2 : List (List Int)) (a0_3 : Int) (a0_4 : Int) (A1 : Option Addr) (c1 : Nat) (l1 : List Int) (r1 : Int) (r2 : Int) (w : World) (hr0_2 : Kd.C (Kd.slice 3 (Kd.int .i64)) w A0_2 l0_2.length l0_2) (hc0_2 : l0_2.length ≤ c0_2) (hr1 : Kd.C (Kd.int .i64) w A1 l1.length l1) (hc1 : l1.length ≤ c1) (h : tally_Place.f k a0_0 a0_1 l0_2 a0_3 a0_4 l1 = some (r1, r2)) :
    Calls Try.prog 35 #[.agg #[.int .i64 a0_0, .int .i64 a0_1, .slice A0_2 l0_2.length c0_2, .int .i64 a0_3, .int .u32 a0_4], .slice A1 l1.length c1] w fun e w' => e = .returned (.tuple #[.int .i64 r1, .int .i64 r2]) ∧ Below w.heap.size w w' := by
  have hu37 := Try.underlying37
  have HR0_2 := Aside0.mk hr0_2
  have HC0_2 := Aside0.mk hc0_2
  clear hr0_2 hc0_2
  have HR1 := Aside0.mk hr1
  have HC1 := Aside0.mk hc1
  clear hr1 hc1
  have HB := Aside0.mk (Below.refl w.heap.size w)
  have H : ((machine_Run.f k a0_0 a0_1 l0_2 a0_3 a0_4 l1).bind fun bt186 => (if bt186.2.2 = 0 then (tally_Place.l0 k l1 0 a0_3 l1 (l1.length : Int) 0 a0_0 a0_1 l0_2 a0_3 a0_4) else (some (0, bt186.2.2)))) = some (r1, r2) := h
  clear h
  replace H := Option.bind_eq_some_iff.mp H
  obtain ⟨⟨t186, t187, t188⟩, A30, H⟩ := H
  replace H : (if t188 = 0 then (tally_Place.l0 k l1 0 a0_3 l1 (l1.length : Int) 0 a0_0 a0_1 l0_2 a0_3 a0_4) else (some (0, t188))) = some (r1, r2) := H
  have A3 := Aside0.mk A30
  clear A30
  by_cases c4 : t188 = 0
  · rw [if_pos c4] at H
    have c4b0 : (t188 == 0) = true := beq_iff_eq.mpr c4
    have c4b1 : (t188 != 0) = false := bne_eq_false_iff_eq.mpr c4
    clear c4
    have H' := Aside0.mk H
    clear H
    go_enter Try.func35, Try.ntmps35
    go_wp2_with (first | ((with_reducible refine gate_dst (N := 2) rfl ?_); refine box_event ?hg (N := 2) ?hd (cs := #[.int .i64 a0_0, .int .i64 a0_1, .slice A0_2 l0_2.length c0_2, .int .i64 a0_3, .int .u32 a0_4]) (t := 37) ?hr ?_; (case hd => rfl); (case hg => rfl); (case hr => first | (go_simp; done) | (go_simp; rfl)); intro gb185 hg w5 hbox hb; have n0_ := Aside0.mk (below_step (by repeat (first | (with_reducible first | exact HB.out | apply below_alloc | apply pw_below_drewN | apply below_drew1) | exact HB.out)) hb); have n1_ := Aside0.mk (hbox); have n2_ := Aside0.mk ((by rw [hg]; exact (below_size (by repeat (first | (with_reducible first | exact HB.out | apply below_alloc | apply pw_below_drewN | apply below_drew1) | exact HB.out))) : w.heap.size ≤ gb185)); have n3_ := Aside0.mk ((by rw [hg]; exact (below_size (by repeat (first | (with_reducible first | exact HB.out | apply below_alloc | apply pw_below_drewN | apply below_drew1) | exact HB.out))) : w.heap.size ≤ gb185)); clear HB; have HB := n0_; have BK185 := n1_; have GW185 := n2_; have GE185 := n3_; clear n0_ n1_ n2_ n3_; clear hb hbox hg; have hcz6_0 : w5.cell? ⟨gb185, 0, none⟩ = some (.int .i64 a0_0) := (blk_cell BK185.out 0).trans rfl; have hcz6_1 : w5.cell? ⟨gb185, 1, none⟩ = some (.int .i64 a0_1) := (blk_cell BK185.out 1).trans rfl; have hcz6_2 : w5.cell? ⟨gb185, 2, none⟩ = some (.slice A0_2 l0_2.length c0_2) := (blk_cell BK185.out 2).trans rfl; have hcz6_3 : w5.cell? ⟨gb185, 3, none⟩ = some (.int .i64 a0_3) := (blk_cell BK185.out 3).trans rfl; have hcz6_4 : w5.cell? ⟨gb185, 4, none⟩ = some (.int .u32 a0_4) := (blk_cell BK185.out 4).trans rfl; have hfz6_0 := blk_frozen BK185.out 0; have hfz6_1 := blk_frozen BK185.out 1; have hfz6_2 := blk_frozen BK185.out 2; have hfz6_3 := blk_frozen BK185.out 3; have hfz6_4 := blk_frozen BK185.out 4) | ((with_reducible refine gate_callee (f := 18) rfl ?_); refine goesL_ (some 18) rfl rfl Try.func18 (by kernel_rfl) rfl #[.agg #[.int .i64 a0_0, .int .i64 a0_1, .slice A0_2 l0_2.length c0_2, .int .i64 a0_3, .int .u32 a0_4], .slice A1 l1.length c1] rfl (by (try simp only [List.map_toArray, List.map_cons, List.map_nil]); first | done | rfl | (simp only [List.length_drop, List.length_take]; rfl)) ?_; (with_reducible refine (machine_Run.calls k a0_0 a0_1 _ _ l0_2 a0_3 a0_4 _ _ l1 t186 t187 t188 _ ?side1 ?side2 ?side3 ?side4 A3.out).mono ?_); (case side1 => repeat (first | exact (Kd.C_below HR0_2.out HB.out) | (with_reducible refine Kd.C_alloc ?_ _) | (with_reducible refine Kd.C_drewN ?_ _) | (with_reducible refine Kd.C_drew ?_))); (case side2 => exact HC0_2.out); (case side3 => repeat (first | exact (Kd.C_below HR1.out HB.out) | (with_reducible refine Kd.C_alloc ?_ _) | (with_reducible refine Kd.C_drewN ?_ _) | (with_reducible refine Kd.C_drew ?_))); (case side4 => exact HC1.out); rintro e w7 ⟨rfl, hb⟩; refine ⟨_, rfl, ?_⟩; have n0_ := Aside0.mk (blk_below (g := gb185) (o := .cells #[.int .i64 a0_0, .int .i64 a0_1, .slice A0_2 l0_2.length c0_2, .int .i64 a0_3, .int .u32 a0_4] 37 (0, 0)) (by (with_reducible repeat (first | refine blk_drewN ?_ _ | refine blk_drew ?_ | refine blk_alloc ?_ _)); exact BK185.out) hb); have n1_ := Aside0.mk (below_step (by repeat (first | (with_reducible first | exact HB.out | apply below_alloc | apply pw_below_drewN | apply below_drew1 | refine below_set ?_ GE185.out) | exact HB.out)) hb); clear BK185; clear HB; have BK185 := n0_; have HB := n1_; clear n0_ n1_; (try clear hb); (try clear hb2); (try clear hk); (try clear hi); have hcz8_0 : w7.cell? ⟨gb185, 0, none⟩ = some (.int .i64 a0_0) := (blk_cell BK185.out 0).trans rfl; have hcz8_1 : w7.cell? ⟨gb185, 1, none⟩ = some (.int .i64 a0_1) := (blk_cell BK185.out 1).trans rfl; have hcz8_2 : w7.cell? ⟨gb185, 2, none⟩ = some (.slice A0_2 l0_2.length c0_2) := (blk_cell BK185.out 2).trans rfl; have hcz8_3 : w7.cell? ⟨gb185, 3, none⟩ = some (.int .i64 a0_3) := (blk_cell BK185.out 3).trans rfl; have hcz8_4 : w7.cell? ⟨gb185, 4, none⟩ = some (.int .u32 a0_4) := (blk_cell BK185.out 4).trans rfl; have hfz8_0 := blk_frozen BK185.out 0; have hfz8_1 := blk_frozen BK185.out 1; have hfz8_2 := blk_frozen BK185.out 2; have hfz8_3 := blk_frozen BK185.out 3; have hfz8_4 := blk_frozen BK185.out 4))
    go_loopg [9, 10, 29] k (fun kq v9 v10 v29 w' => ∃ (x9_1 : Int) (x10_1 : Int) (x29_1 : Int), v9 = .int .i64 x9_1 ∧ v10 = .int .i64 x10_1 ∧ v29 = .int .i64 x29_1 ∧ Aside0 (tally_Place.l0 kq l1 x9_1 x10_1 l1 (l1.length : Int) x29_1 a0_0 a0_1 l0_2 a0_3 a0_4 = some (r1, r2)) ∧ Aside0 (kq ≤ k) ∧ Aside0 (w'.heap[gb185]? = some (.cells #[.int .i64 a0_0, .int .i64 a0_1, (.slice A0_2 l0_2.length c0_2), .int .i64 a0_3, .int .u32 a0_4] 37 (0, 0))) ∧ Aside0 (Below w.heap.size w w'))
    case atStart => exact ⟨(0), (a0_3), (0), (by first | rfl | (simp; done) | (simp [*]; done)), (by first | rfl | (simp; done) | (simp [*]; done)), (by first | rfl | (simp; done) | (simp [*]; done)), H', ⟨Nat.le_refl _⟩, ⟨by (with_reducible repeat (first | refine blk_drewN ?_ _ | refine blk_drew ?_ | refine blk_alloc ?_ _)); exact BK185.out⟩, ⟨by repeat (first | (with_reducible first | exact HB.out | apply below_alloc | apply pw_below_drewN | apply below_drew1 | refine below_set ?_ GE185.out) | exact HB.out)⟩⟩
    case round =>
      clear H'
      try clear c1
      try clear p2
      try clear c3
      try clear c4
      try clear c4b0
      try clear c4b1
      try clear hcz6_0
      try clear hcz6_1
      try clear hcz6_2
      try clear hcz6_3
      try clear hcz6_4
      try clear hcz8_0
      try clear hcz8_1
      try clear hcz8_2
      try clear hcz8_3
      try clear hcz8_4
      try clear hfz6_0
      try clear hfz6_1
      try clear hfz6_2
      try clear hfz6_3
      try clear hfz6_4
      try clear hfz8_0
      try clear hfz8_1
      try clear hfz8_2
      try clear hfz8_3
      try clear hfz8_4
      obtain ⟨x9_1, x10_1, x29_1, rfl, rfl, rfl, HA, HK1, BK185, HB⟩ := hrel
      cases gk with
      | zero => exact absurd HA.out (by simp [tally_Place.l0])
      | succ k1 =>
        have H := HA.out
        clear HA
        simp only [tally_Place.l0] at H
        by_cases c9 : x29_1 < (l1.length : Int)
        · rw [if_pos c9] at H
          have c9b0 : decide (x29_1 < (l1.length : Int)) = true := decide_eq_true c9
          clear c9
          by_cases c10 : 0 ≤ x29_1
          · rw [if_pos c10] at H
            have c10b0 : decide (0 ≤ x29_1) = true := decide_eq_true c10
            clear c10
            by_cases c11 : x29_1 < (l1.length : Int)
            · rw [if_pos c11] at H
              have c11b0 : decide (x29_1 < (l1.length : Int)) = true := decide_eq_true c11
              clear c11
              replace H := Option.bind_eq_some_iff.mp H
              obtain ⟨t190, A120, H⟩ := H
              replace H : (tally_Place.l1 k1 l1 x9_1 x10_1 (rd l1 x29_1) t190 l1 (l1.length : Int) x29_1 (rd l1 x29_1) 0 a0_0 a0_1 l0_2 a0_3 a0_4) = some (r1, r2) := H
              have A12 := Aside0.mk A120
              clear A120
              have H' := Aside0.mk H
              clear H
              have p189 : 0 ≤ (x29_1 : Int) := of_decide_eq_true (by first | (with_reducible assumption) | assumption)
              have q189 : x29_1 < (l1.length : Int) := of_decide_eq_true (by first | (with_reducible assumption) | assumption)
              obtain ⟨ad189, e189, hx189_0⟩ := Kd.at_int HR1.out x29_1 p189 q189
              cases e189
              replace hx189_0 := (HB.out.cell (World.block_lt_of_cell? w _ hx189_0)).trans hx189_0
              replace p189 := eq_true p189
              replace q189 := eq_true q189
              have hcz13_0 : wr.cell? ⟨gb185, 0, none⟩ = some (.int .i64 a0_0) := (blk_cell BK185.out 0).trans rfl
              have hcz13_1 : wr.cell? ⟨gb185, 1, none⟩ = some (.int .i64 a0_1) := (blk_cell BK185.out 1).trans rfl
              have hcz13_2 : wr.cell? ⟨gb185, 2, none⟩ = some (.slice A0_2 l0_2.length c0_2) := (blk_cell BK185.out 2).trans rfl
              have hcz13_3 : wr.cell? ⟨gb185, 3, none⟩ = some (.int .i64 a0_3) := (blk_cell BK185.out 3).trans rfl
              have hcz13_4 : wr.cell? ⟨gb185, 4, none⟩ = some (.int .u32 a0_4) := (blk_cell BK185.out 4).trans rfl
              have hfz13_0 := blk_frozen BK185.out 0
              have hfz13_1 := blk_frozen BK185.out 1
              have hfz13_2 := blk_frozen BK185.out 2
              have hfz13_3 := blk_frozen BK185.out 3
              have hfz13_4 := blk_frozen BK185.out 4
              go_wp2_with (first | ((with_reducible refine gate_callee (f := 53) rfl ?_); refine goesL_ (some 40) rfl rfl Try.func53 (by kernel_rfl) rfl #[.agg #[.int .i64 a0_0, .int .i64 a0_1, .slice A0_2 l0_2.length c0_2, .int .i64 a0_3, .int .u32 a0_4], .int .i64 (wrap64 ((wrap64 ((l1.length : Int) - 1)) - x29_1))] rfl (by (try simp only [List.map_toArray, List.map_cons, List.map_nil]); first | done | rfl | (simp only [List.length_drop, List.length_take]; rfl)) ?_; (with_reducible refine (tally_ways.calls k1 a0_0 a0_1 _ _ l0_2 a0_3 a0_4 (wrap64 ((wrap64 ((l1.length : Int) - 1)) - x29_1)) t190 _ ?side1 ?side2 A12.out).mono ?_); (case side1 => repeat (first | exact (Kd.C_below HR0_2.out HB.out) | (with_reducible refine Kd.C_alloc ?_ _) | (with_reducible refine Kd.C_drewN ?_ _) | (with_reducible refine Kd.C_drew ?_))); (case side2 => exact HC0_2.out); rintro e w14 ⟨v191, rfl, ho0, hb⟩; refine ⟨_, rfl, ?_⟩; have n0_ := Aside0.mk (Kd.R_lower ho0 (below_size (by repeat (first | (with_reducible first | exact HB.out | apply below_alloc | apply pw_below_drewN | apply below_drew1 | refine below_set ?_ GE185.out) | exact HB.out)))); have n1_ := Aside0.mk (blk_below (g := gb185) (o := .cells #[.int .i64 a0_0, .int .i64 a0_1, .slice A0_2 l0_2.length c0_2, .int .i64 a0_3, .int .u32 a0_4] 37 (0, 0)) (by (with_reducible repeat (first | refine blk_drewN ?_ _ | refine blk_drew ?_ | refine blk_alloc ?_ _)); exact BK185.out) hb); have n2_ := Aside0.mk (below_step (by repeat (first | (with_reducible first | exact HB.out | apply below_alloc | apply pw_below_drewN | apply below_drew1 | refine below_set ?_ GE185.out) | exact HB.out)) hb); clear BK185; clear HB; have HO192 := n0_; have BK185 := n1_; have HB := n2_; clear n0_ n1_ n2_; (try clear hb); (try clear hb2); (try clear hk); (try clear hi); (try clear ho0)))
              go_loopg [9, 42] k1 (fun kq v9 v42 w' => ∃ (x9_2 : Int) (x42_2 : Int), v9 = .int .i64 x9_2 ∧ v42 = .int .i64 x42_2 ∧ Aside0 (tally_Place.l1 kq l1 x9_2 x10_1 (rd l1 x29_1) t190 l1 (l1.length : Int) x29_1 (rd l1 x29_1) x42_2 a0_0 a0_1 l0_2 a0_3 a0_4 = some (r1, r2)) ∧ Aside0 (kq ≤ k1) ∧ Aside0 (Kd.R (Kd.int .i64) 2 w' w.heap.size (fun _ => True) v191 t190) ∧ Aside0 (w'.heap[gb185]? = some (.cells #[.int .i64 a0_0, .int .i64 a0_1, (.slice A0_2 l0_2.length c0_2), .int .i64 a0_3, .int .u32 a0_4] 37 (0, 0))) ∧ Aside0 (Below w.heap.size w w'))
              case atStart => exact ⟨(x9_1), (0), (by first | rfl | (simp; done) | (simp [*]; done)), (by first | rfl | (simp; done) | (simp [*]; done)), H', ⟨Nat.le_refl _⟩, ⟨by (with_reducible repeat (first | apply Kd.R_alloc | apply Kd.R_drewN | apply Kd.R_drew)); exact HO192.out⟩, ⟨by (with_reducible repeat (first | refine blk_drewN ?_ _ | refine blk_drew ?_ | refine blk_alloc ?_ _)); exact BK185.out⟩, ⟨by repeat (first | (with_reducible first | exact HB.out | apply below_alloc | apply pw_below_drewN | apply below_drew1 | refine below_set ?_ GE185.out) | exact HB.out)⟩⟩
              case round =>
                clear H'
                try clear c1
                try clear p1
                try clear q1
                try clear hx1
                try clear p2
                try clear c3
                try clear c4
                try clear c4b0
                try clear c4b1
                try clear c5
                try clear p6
                try clear c9
                try clear c9b0
                try clear c10
                try clear c10b0
                try clear c11
                try clear c11b0
                try clear hcz13_0
                try clear hcz13_1
                try clear hcz13_2
                try clear hcz13_3
                try clear hcz13_4
                try clear hcz6_0
                try clear hcz6_1
                try clear hcz6_2
                try clear hcz6_3
                try clear hcz6_4
                try clear hcz8_0
                try clear hcz8_1
                try clear hcz8_2
                try clear hcz8_3
                try clear hcz8_4
                try clear hfz13_0
                try clear hfz13_1
                try clear hfz13_2
                try clear hfz13_3
                try clear hfz13_4
                try clear hfz6_0
                try clear hfz6_1
                try clear hfz6_2
                try clear hfz6_3
                try clear hfz6_4
                try clear hfz8_0
                try clear hfz8_1
                try clear hfz8_2
                try clear hfz8_3
                try clear hfz8_4
                try clear hx189_0
                try clear p189
                try clear p2
                try clear q189
                obtain ⟨x9_2, x42_2, rfl, rfl, HA, HK2, HO_13, BK185, HB⟩ := hrel
                cases gk with
                | zero => exact absurd HA.out (by simp [tally_Place.l1])
                | succ k2 =>
                  have H := HA.out
                  clear HA
                  simp only [tally_Place.l1] at H
                  by_cases c15 : x42_2 < (rd l1 x29_1)
                  · rw [if_pos c15] at H
                    have c15b0 : decide (x42_2 < (rd l1 x29_1)) = true := decide_eq_true c15
                    clear c15
                    by_cases c16 : 0 ≤ x10_1
                    · rw [if_pos c16] at H
                      have c16b0 : decide (0 ≤ x10_1) = true := decide_eq_true c16
                      clear c16
                      by_cases c17 : x10_1 < (l0_2.length : Int)
                      · rw [if_pos c17] at H
                        have c17b0 : decide (x10_1 < (l0_2.length : Int)) = true := decide_eq_true c17
                        clear c17
                        by_cases c18 : 0 ≤ x42_2
                        · rw [if_pos c18] at H
                          have c18b0 : decide (0 ≤ x42_2) = true := decide_eq_true c18
                          clear c18
                          by_cases c19 : x42_2 < ((rd_L1 l0_2 x10_1).length : Int)
                          · rw [if_pos c19] at H
                            have c19b0 : decide (x42_2 < ((rd_L1 l0_2 x10_1).length : Int)) = true := decide_eq_true c19
                            clear c19
                            by_cases c20 : 0 ≤ (rd (rd_L1 l0_2 x10_1) x42_2)
                            · rw [if_pos c20] at H
                              have c20b0 : decide (0 ≤ (rd (rd_L1 l0_2 x10_1) x42_2)) = true := decide_eq_true c20
                              clear c20
                              by_cases c21 : (rd (rd_L1 l0_2 x10_1) x42_2) < (t190.length : Int)
                              · rw [if_pos c21] at H
                                have c21b0 : decide ((rd (rd_L1 l0_2 x10_1) x42_2) < (t190.length : Int)) = true := decide_eq_true c21
                                clear c21
                                have H' := Aside0.mk H
                                clear H
                                have hcz22_0 : wr.cell? ⟨gb185, 0, none⟩ = some (.int .i64 a0_0) := (blk_cell BK185.out 0).trans rfl
                                have hcz22_1 : wr.cell? ⟨gb185, 1, none⟩ = some (.int .i64 a0_1) := (blk_cell BK185.out 1).trans rfl
                                have hcz22_2 : wr.cell? ⟨gb185, 2, none⟩ = some (.slice A0_2 l0_2.length c0_2) := (blk_cell BK185.out 2).trans rfl
                                have hcz22_3 : wr.cell? ⟨gb185, 3, none⟩ = some (.int .i64 a0_3) := (blk_cell BK185.out 3).trans rfl
                                have hcz22_4 : wr.cell? ⟨gb185, 4, none⟩ = some (.int .u32 a0_4) := (blk_cell BK185.out 4).trans rfl
                                have hfz22_0 := blk_frozen BK185.out 0
                                have hfz22_1 := blk_frozen BK185.out 1
                                have hfz22_2 := blk_frozen BK185.out 2
                                have hfz22_3 := blk_frozen BK185.out 3
                                have hfz22_4 := blk_frozen BK185.out 4
                                have p193 : 0 ≤ (x10_1 : Int) := of_decide_eq_true (by first | (with_reducible assumption) | assumption)
                                have q193 : x10_1 < (l0_2.length : Int) := of_decide_eq_true (by first | (with_reducible assumption) | assumption)
                                obtain ⟨ad193, A193_0, c193_0, e193, hx193_0, hl193_0, hi193_0⟩ := at_L1 HR0_2.out x10_1 p193 q193
                                cases e193
                                replace hx193_0 := (HB.out.cell (World.block_lt_of_cell? w _ hx193_0)).trans hx193_0
                                have HR193_0 := Aside0.mk hi193_0
                                have HC193_0 := Aside0.mk hl193_0
                                clear hi193_0 hl193_0
                                replace p193 := eq_true p193
                                replace q193 := eq_true q193
                                have p194 : 0 ≤ (x42_2 : Int) := of_decide_eq_true (by first | (with_reducible assumption) | assumption)
                                have q194 : x42_2 < ((rd_L1 l0_2 x10_1).length : Int) := of_decide_eq_true (by first | (with_reducible assumption) | assumption)
                                obtain ⟨ad194, e194, hx194_0⟩ := Kd.at_int HR193_0.out x42_2 p194 q194
                                cases e194
                                replace hx194_0 := (HB.out.cell (World.block_lt_of_cell? w _ hx194_0)).trans hx194_0
                                replace p194 := eq_true p194
                                replace q194 := eq_true q194
                                obtain ⟨Ao23, co23, eo23⟩ := Kd.R_slice HO_13.out
                                subst eo23
                                have p195 : 0 ≤ ((rd (rd_L1 l0_2 x10_1) x42_2) : Int) := of_decide_eq_true (by first | (with_reducible assumption) | assumption)
                                have q195 : (rd (rd_L1 l0_2 x10_1) x42_2) < (t190.length : Int) := of_decide_eq_true (by first | (with_reducible assumption) | assumption)
                                obtain ⟨ad195, e195, hx195_0⟩ := Kd.at_int (Kd.R_reads' HO_13.out).2.2 (rd (rd_L1 l0_2 x10_1) x42_2) p195 q195
                                cases e195
                                replace p195 := eq_true p195
                                replace q195 := eq_true q195
                                go_wp2
                                go_roundg k2
                                case measure => have := HK1.out; have := HK2.out; omega
                                case rel => exact ⟨(wrap64 (x9_2 + (rd t190 (rd (rd_L1 l0_2 x10_1) x42_2)))), (wrap64 (x42_2 + 1)), (by first | rfl | (simp; done) | (simp [*]; done)), (by first | rfl | (simp; done) | (simp [*]; done)), H', ⟨by have := HK1.out; have := HK2.out; omega⟩, ⟨by (with_reducible repeat (first | apply Kd.R_alloc | apply Kd.R_drewN | apply Kd.R_drew)); exact HO_13.out⟩, ⟨by (with_reducible repeat (first | refine blk_drewN ?_ _ | refine blk_drew ?_ | refine blk_alloc ?_ _)); exact BK185.out⟩, ⟨by repeat (first | (with_reducible first | exact HB.out | apply below_alloc | apply pw_below_drewN | apply below_drew1 | refine below_set ?_ GE185.out) | exact HB.out)⟩⟩
                              · rw [if_neg c21] at H
                                exact absurd H (by simp)
                            · rw [if_neg c20] at H
                              exact absurd H (by simp)
                          · rw [if_neg c19] at H
                            exact absurd H (by simp)
                        · rw [if_neg c18] at H
                          exact absurd H (by simp)
                      · rw [if_neg c17] at H
                        exact absurd H (by simp)
                    · rw [if_neg c16] at H
                      exact absurd H (by simp)
                  · rw [if_neg c15] at H
                    have c15b0 : decide (x42_2 < (rd l1 x29_1)) = false := decide_eq_false c15
                    clear c15
                    by_cases c24 : 0 ≤ x10_1
                    · rw [if_pos c24] at H
                      have c24b0 : decide (0 ≤ x10_1) = true := decide_eq_true c24
                      clear c24
                      by_cases c25 : x10_1 < (l0_2.length : Int)
                      · rw [if_pos c25] at H
                        have c25b0 : decide (x10_1 < (l0_2.length : Int)) = true := decide_eq_true c25
                        clear c25
                        by_cases c26 : 0 ≤ (rd l1 x29_1)
                        · rw [if_pos c26] at H
                          have c26b0 : decide (0 ≤ (rd l1 x29_1)) = true := decide_eq_true c26
                          clear c26
                          by_cases c27 : (rd l1 x29_1) < ((rd_L1 l0_2 x10_1).length : Int)
                          · rw [if_pos c27] at H
                            have c27b0 : decide ((rd l1 x29_1) < ((rd_L1 l0_2 x10_1).length : Int)) = true := decide_eq_true c27
                            clear c27
                            have H' := Aside0.mk H
                            clear H
                            have hcz28_0 : wr.cell? ⟨gb185, 0, none⟩ = some (.int .i64 a0_0) := (blk_cell BK185.out 0).trans rfl
                            have hcz28_1 : wr.cell? ⟨gb185, 1, none⟩ = some (.int .i64 a0_1) := (blk_cell BK185.out 1).trans rfl
                            have hcz28_2 : wr.cell? ⟨gb185, 2, none⟩ = some (.slice A0_2 l0_2.length c0_2) := (blk_cell BK185.out 2).trans rfl
                            have hcz28_3 : wr.cell? ⟨gb185, 3, none⟩ = some (.int .i64 a0_3) := (blk_cell BK185.out 3).trans rfl
                            have hcz28_4 : wr.cell? ⟨gb185, 4, none⟩ = some (.int .u32 a0_4) := (blk_cell BK185.out 4).trans rfl
                            have hfz28_0 := blk_frozen BK185.out 0
                            have hfz28_1 := blk_frozen BK185.out 1
                            have hfz28_2 := blk_frozen BK185.out 2
                            have hfz28_3 := blk_frozen BK185.out 3
                            have hfz28_4 := blk_frozen BK185.out 4
                            have p196 : 0 ≤ (x10_1 : Int) := of_decide_eq_true (by first | (with_reducible assumption) | assumption)
                            have q196 : x10_1 < (l0_2.length : Int) := of_decide_eq_true (by first | (with_reducible assumption) | assumption)
                            obtain ⟨ad196, A196_0, c196_0, e196, hx196_0, hl196_0, hi196_0⟩ := at_L1 HR0_2.out x10_1 p196 q196
                            cases e196
                            replace hx196_0 := (HB.out.cell (World.block_lt_of_cell? w _ hx196_0)).trans hx196_0
                            have HR196_0 := Aside0.mk hi196_0
                            have HC196_0 := Aside0.mk hl196_0
                            clear hi196_0 hl196_0
                            replace p196 := eq_true p196
                            replace q196 := eq_true q196
                            have p197 : 0 ≤ ((rd l1 x29_1) : Int) := of_decide_eq_true (by first | (with_reducible assumption) | assumption)
                            have q197 : (rd l1 x29_1) < ((rd_L1 l0_2 x10_1).length : Int) := of_decide_eq_true (by first | (with_reducible assumption) | assumption)
                            obtain ⟨ad197, e197, hx197_0⟩ := Kd.at_int HR196_0.out (rd l1 x29_1) p197 q197
                            cases e197
                            replace hx197_0 := (HB.out.cell (World.block_lt_of_cell? w _ hx197_0)).trans hx197_0
                            replace p197 := eq_true p197
                            replace q197 := eq_true q197
                            go_wp2
                            go_roundg k2
                            case measure => have := HK1.out; have := HK2.out; omega
                            case rel => exact ⟨(x9_2), (rd (rd_L1 l0_2 x10_1) (rd l1 x29_1)), (wrap64 (x29_1 + 1)), (by first | rfl | (simp; done) | (simp [*]; done)), (by first | rfl | (simp; done) | (simp [*]; done)), (by first | rfl | (simp; done) | (simp [*]; done)), H', ⟨by have := HK1.out; have := HK2.out; omega⟩, ⟨by (with_reducible repeat (first | refine blk_drewN ?_ _ | refine blk_drew ?_ | refine blk_alloc ?_ _)); exact BK185.out⟩, ⟨by repeat (first | (with_reducible first | exact HB.out | apply below_alloc | apply pw_below_drewN | apply below_drew1 | refine below_set ?_ GE185.out) | exact HB.out)⟩⟩
                          · rw [if_neg c27] at H
                            exact absurd H (by simp)
                        · rw [if_neg c26] at H
                          exact absurd H (by simp)
                      · rw [if_neg c25] at H
                        exact absurd H (by simp)
                    · rw [if_neg c24] at H
                      exact absurd H (by simp)
            · rw [if_neg c11] at H
              exact absurd H (by simp)
          · rw [if_neg c10] at H
            exact absurd H (by simp)
        · rw [if_neg c9] at H
          have c9b0 : decide (x29_1 < (l1.length : Int)) = false := decide_eq_false c9
          clear c9
          simp only [Option.some.injEq, Prod.mk.injEq] at H
          obtain ⟨rfl, rfl⟩ := H
          go_wp2
          go_ret2
          exact ⟨by first | rfl | (simp [errW_none, errW_some] <;> rfl) | (simp [*, errW_none, errW_some] <;> rfl), by repeat (first | (with_reducible first | exact HB.out | apply below_alloc | apply pw_below_drewN | apply below_drew1 | refine below_set ?_ GE185.out) | exact HB.out)⟩
  · rw [if_neg c4] at H
    have c4b0 : (t188 == 0) = false := beq_eq_false_iff_ne.mpr c4
    have c4b1 : (t188 != 0) = true := bne_iff_ne.mpr c4
    simp only [Option.some.injEq, Prod.mk.injEq] at H
    obtain ⟨rfl, rfl⟩ := H
    go_enter Try.func35, Try.ntmps35
    go_wp2_with (first | ((with_reducible refine gate_dst (N := 2) rfl ?_); refine box_event ?hg (N := 2) ?hd (cs := #[.int .i64 a0_0, .int .i64 a0_1, .slice A0_2 l0_2.length c0_2, .int .i64 a0_3, .int .u32 a0_4]) (t := 37) ?hr ?_; (case hd => rfl); (case hg => rfl); (case hr => first | (go_simp; done) | (go_simp; rfl)); intro gb185 hg w29 hbox hb; have n0_ := Aside0.mk (below_step (by repeat (first | (with_reducible first | exact HB.out | apply below_alloc | apply pw_below_drewN | apply below_drew1) | exact HB.out)) hb); have n1_ := Aside0.mk (hbox); have n2_ := Aside0.mk ((by rw [hg]; exact (below_size (by repeat (first | (with_reducible first | exact HB.out | apply below_alloc | apply pw_below_drewN | apply below_drew1) | exact HB.out))) : w.heap.size ≤ gb185)); have n3_ := Aside0.mk ((by rw [hg]; exact (below_size (by repeat (first | (with_reducible first | exact HB.out | apply below_alloc | apply pw_below_drewN | apply below_drew1) | exact HB.out))) : w.heap.size ≤ gb185)); clear HB; have HB := n0_; have BK185 := n1_; have GW185 := n2_; have GE185 := n3_; clear n0_ n1_ n2_ n3_; clear hb hbox hg; have hcz30_0 : w29.cell? ⟨gb185, 0, none⟩ = some (.int .i64 a0_0) := (blk_cell BK185.out 0).trans rfl; have hcz30_1 : w29.cell? ⟨gb185, 1, none⟩ = some (.int .i64 a0_1) := (blk_cell BK185.out 1).trans rfl; have hcz30_2 : w29.cell? ⟨gb185, 2, none⟩ = some (.slice A0_2 l0_2.length c0_2) := (blk_cell BK185.out 2).trans rfl; have hcz30_3 : w29.cell? ⟨gb185, 3, none⟩ = some (.int .i64 a0_3) := (blk_cell BK185.out 3).trans rfl; have hcz30_4 : w29.cell? ⟨gb185, 4, none⟩ = some (.int .u32 a0_4) := (blk_cell BK185.out 4).trans rfl; have hfz30_0 := blk_frozen BK185.out 0; have hfz30_1 := blk_frozen BK185.out 1; have hfz30_2 := blk_frozen BK185.out 2; have hfz30_3 := blk_frozen BK185.out 3; have hfz30_4 := blk_frozen BK185.out 4) | ((with_reducible refine gate_callee (f := 18) rfl ?_); refine goesL_ (some 18) rfl rfl Try.func18 (by kernel_rfl) rfl #[.agg #[.int .i64 a0_0, .int .i64 a0_1, .slice A0_2 l0_2.length c0_2, .int .i64 a0_3, .int .u32 a0_4], .slice A1 l1.length c1] rfl (by (try simp only [List.map_toArray, List.map_cons, List.map_nil]); first | done | rfl | (simp only [List.length_drop, List.length_take]; rfl)) ?_; (with_reducible refine (machine_Run.calls k a0_0 a0_1 _ _ l0_2 a0_3 a0_4 _ _ l1 t186 t187 t188 _ ?side1 ?side2 ?side3 ?side4 A3.out).mono ?_); (case side1 => repeat (first | exact (Kd.C_below HR0_2.out HB.out) | (with_reducible refine Kd.C_alloc ?_ _) | (with_reducible refine Kd.C_drewN ?_ _) | (with_reducible refine Kd.C_drew ?_))); (case side2 => exact HC0_2.out); (case side3 => repeat (first | exact (Kd.C_below HR1.out HB.out) | (with_reducible refine Kd.C_alloc ?_ _) | (with_reducible refine Kd.C_drewN ?_ _) | (with_reducible refine Kd.C_drew ?_))); (case side4 => exact HC1.out); rintro e w31 ⟨rfl, hb⟩; refine ⟨_, rfl, ?_⟩; have n0_ := Aside0.mk (blk_below (g := gb185) (o := .cells #[.int .i64 a0_0, .int .i64 a0_1, .slice A0_2 l0_2.length c0_2, .int .i64 a0_3, .int .u32 a0_4] 37 (0, 0)) (by (with_reducible repeat (first | refine blk_drewN ?_ _ | refine blk_drew ?_ | refine blk_alloc ?_ _)); exact BK185.out) hb); have n1_ := Aside0.mk (below_step (by repeat (first | (with_reducible first | exact HB.out | apply below_alloc | apply pw_below_drewN | apply below_drew1 | refine below_set ?_ GE185.out) | exact HB.out)) hb); clear BK185; clear HB; have BK185 := n0_; have HB := n1_; clear n0_ n1_; (try clear hb); (try clear hb2); (try clear hk); (try clear hi)))
    go_ret2
    exact ⟨by first | rfl | (simp [errW_none, errW_some] <;> rfl) | (simp [*, errW_none, errW_some] <;> rfl), by repeat (first | (with_reducible first | exact HB.out | apply below_alloc | apply pw_below_drewN | apply below_drew1 | refine below_set ?_ GE185.out) | exact HB.out)⟩

end Go.Proofs.Ytiiankjmeodjdaa.GC
