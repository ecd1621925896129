-- Written by ext.py, a program of this session.
import Derived.Test.YthgiiikjcfhgjaaGU0
namespace Go.Proofs.Ythgiiikjcfhgjaa.GU
open Go.RowKit Go.Proofs.YthgiiikjcfhgjaaW.PrintWords Go.Proofs.YthgiiikjcfhgjaaW.PrintLast Go.Proofs.YthgiiikjcfhgjaaW.PrintMore
attribute [local go_sem] max2_int min2_int max_two min_two max_three min_three max_four min_four cellIs_set   -- for this text's walks alone
set_option linter.unusedVariables false
set_option linter.unusedSimpArgs false

/-! ### table_spans_ends: function 135 -/
mutual
def table_spans_ends.l0 : Nat → List (List Int) → List Int → Int → List Int → Int → Int → Int → Int → Int → List (S126) → Option (Int)
  | 0, _, _, _, _, _, _, _, _, _, _ => none
  | k + 1, x0, x2, x4, x15, x16, x17, x112000, x112001, x112002, x112003 => if x17 < x16 then (if 0 ≤ x17 then (if x17 < (x15.length : Int) then (table_spans_ends.l1 k x0 x2 x4 (rd x15 x17) 0 x15 x16 x17 (wrap64 ((x2.length : Int) + 1)) 0 x112000 x112001 x112002 x112003) else (none)) else (none)) else (some x4)
def table_spans_ends.l1 : Nat → List (List Int) → List Int → Int → Int → Int → List Int → Int → Int → Int → Int → Int → Int → Int → List (S126) → Option (Int)
  | 0, _, _, _, _, _, _, _, _, _, _, _, _, _, _ => none
  | k + 1, x0, x2, x4, x12, x13, x15, x16, x17, x23, x24, x112000, x112001, x112002, x112003 => if x24 < x23 then (if 0 ≤ x24 then (if (Go.bits .and .u32 (shr .u32 x4 x24) 1) = 0 then (table_spans_ends.l1 k x0 x2 x4 x12 x13 x15 x16 x17 x23 (wrap64 (x24 + 1)) x112000 x112001 x112002 x112003) else (if x12 ≥ x112000 then (if 0 ≤ (wrap64 (x12 - x112000)) then (if (wrap64 (x12 - x112000)) < (x0.length : Int) then (if x24 < ((rd_L4 x0 (wrap64 (x12 - x112000))).length : Int) then (table_spans_ends.l1 k x0 x2 x4 x12 (Go.bits .or .u32 x13 (rd (rd_L4 x0 (wrap64 (x12 - x112000))) x24)) x15 x16 x17 x23 (wrap64 (x24 + 1)) x112000 x112001 x112002 x112003) else (none)) else (none)) else (none)) else (if x24 < (x2.length : Int) then (if (rd x2 x24) = x12 then (if 0 ≤ (wrap64 (x24 + 1)) then (table_spans_ends.l1 k x0 x2 x4 x12 (Go.bits .or .u32 x13 (shl .u32 1 (wrap64 (x24 + 1)))) x15 x16 x17 x23 (wrap64 (x24 + 1)) x112000 x112001 x112002 x112003) else (none)) else (table_spans_ends.l1 k x0 x2 x4 x12 x13 x15 x16 x17 x23 (wrap64 (x24 + 1)) x112000 x112001 x112002 x112003)) else (table_spans_ends.l1 k x0 x2 x4 x12 x13 x15 x16 x17 x23 (wrap64 (x24 + 1)) x112000 x112001 x112002 x112003)))) else (none)) else (table_spans_ends.l0 k x0 x2 x13 x15 x16 (wrap64 (x17 + 1)) x112000 x112001 x112002 x112003)
end
def table_spans_ends.f (k : Nat) (l0 : List (List Int)) (a1_0 : Int) (a1_1 : Int) (a1_2 : Int) (l1_3 : List (S126)) (l2 : List Int) (l3 : List Int) (a4 : Int) : Option (Int) := table_spans_ends.l0 k l0 l2 a4 l3 (l3.length : Int) 0 a1_0 a1_1 a1_2 l1_3
theorem table_spans_ends.mono_l : ∀ k, (∀ y0 y1 y2 y3 y4 y5 y6 y7 y8 y9, LeO (table_spans_ends.l0 k y0 y1 y2 y3 y4 y5 y6 y7 y8 y9) (table_spans_ends.l0 (k + 1) y0 y1 y2 y3 y4 y5 y6 y7 y8 y9)) ∧ (∀ y0 y1 y2 y3 y4 y5 y6 y7 y8 y9 y10 y11 y12 y13, LeO (table_spans_ends.l1 k y0 y1 y2 y3 y4 y5 y6 y7 y8 y9 y10 y11 y12 y13) (table_spans_ends.l1 (k + 1) y0 y1 y2 y3 y4 y5 y6 y7 y8 y9 y10 y11 y12 y13))
  | 0 => ⟨fun _ _ _ _ _ _ _ _ _ _ r h => by simp [table_spans_ends.l0] at h, fun _ _ _ _ _ _ _ _ _ _ _ _ _ _ r h => by simp [table_spans_ends.l1] at h⟩
  | k + 1 => by
    obtain ⟨ih0, ih1⟩ := table_spans_ends.mono_l k
    refine ⟨?_, ?_⟩
    · intro y0 y1 y2 y3 y4 y5 y6 y7 y8 y9
      unfold table_spans_ends.l0
      repeat' first
      | (with_reducible exact ih0 _ _ _ _ _ _ _ _ _ _)
      | (with_reducible exact ih1 _ _ _ _ _ _ _ _ _ _ _ _ _ _)
      | (with_reducible exact LeO.refl _)
      | (with_reducible exact LeO.none _)
      | (with_reducible refine LeO.ite ?_ ?_)
      | (with_reducible refine LeO.bind ?_ (fun _ => ?_))
      | exact ih0 _ _ _ _ _ _ _ _ _ _
      | exact ih1 _ _ _ _ _ _ _ _ _ _ _ _ _ _
      | exact LeO.none _
      | refine LeO.ite ?_ ?_
      | refine LeO.bind ?_ (fun _ => ?_)
    · intro y0 y1 y2 y3 y4 y5 y6 y7 y8 y9 y10 y11 y12 y13
      unfold table_spans_ends.l1
      repeat' first
      | (with_reducible exact ih0 _ _ _ _ _ _ _ _ _ _)
      | (with_reducible exact ih1 _ _ _ _ _ _ _ _ _ _ _ _ _ _)
      | (with_reducible exact LeO.refl _)
      | (with_reducible exact LeO.none _)
      | (with_reducible refine LeO.ite ?_ ?_)
      | (with_reducible refine LeO.bind ?_ (fun _ => ?_))
      | exact ih0 _ _ _ _ _ _ _ _ _ _
      | exact ih1 _ _ _ _ _ _ _ _ _ _ _ _ _ _
      | exact LeO.none _
      | refine LeO.ite ?_ ?_
      | refine LeO.bind ?_ (fun _ => ?_)
theorem table_spans_ends.mono : ∀ a0 a1 a2 a3 a4 a5 a6 a7 k, LeO (table_spans_ends.f k a0 a1 a2 a3 a4 a5 a6 a7) (table_spans_ends.f (k + 1) a0 a1 a2 a3 a4 a5 a6 a7) := by
  intro a0 a1 a2 a3 a4 a5 a6 a7 k
  obtain ⟨ih0, ih1⟩ := table_spans_ends.mono_l k
  unfold table_spans_ends.f
  repeat' first
      | (with_reducible exact ih0 _ _ _ _ _ _ _ _ _ _)
      | (with_reducible exact ih1 _ _ _ _ _ _ _ _ _ _ _ _ _ _)
      | (with_reducible exact LeO.refl _)
      | (with_reducible exact LeO.none _)
      | (with_reducible refine LeO.ite ?_ ?_)
      | (with_reducible refine LeO.bind ?_ (fun _ => ?_))
      | exact ih0 _ _ _ _ _ _ _ _ _ _
      | exact ih1 _ _ _ _ _ _ _ _ _ _ _ _ _ _
      | exact LeO.none _
      | refine LeO.ite ?_ ?_
      | refine LeO.bind ?_ (fun _ => ?_)
set_option maxHeartbeats 8000000 in
set_option maxRecDepth 100000 in
theorem table_spans_ends.calls (k : Nat) (A0 : Option Addr) (c0 : Nat) (l0 : List (List Int)) (a1_0 : Int) (a1_1 : Int) (a1_2 : Int) (A1_3 : Option Addr) (c1_3 : Nat) (l1_3 : List (S126)) (A2 : Option Addr) (c2 : Nat) (l2 : List Int) (A3 : Option Addr) (c3 : Nat) (l3 : List Int) (a4 : Int) (r : Int) (w : World) (hr0 : Kd.C (Kd.slice 61 (Kd.int .u32)) w A0 l0.length l0) (hc0 : l0.length ≤ c0) (hr1_3 : Kd.C k126 w A1_3 l1_3.length l1_3) (hc1_3 : l1_3.length ≤ c1_3) (hr2 : Kd.C (Kd.int .i64) w A2 l2.length l2) (hc2 : l2.length ≤ c2) (hr3 : Kd.C (Kd.int .i64) w A3 l3.length l3) (hc3 : l3.length ≤ c3) (h : table_spans_ends.f k l0 a1_0 a1_1 a1_2 l1_3 l2 l3 a4 = some r) :
    Calls Try.prog 135 #[.slice A0 l0.length c0, .agg #[.int .i64 a1_0, .int .i64 a1_1, .int .i64 a1_2, .slice A1_3 l1_3.length c1_3], .slice A2 l2.length c2, .slice A3 l3.length c3, .int .u32 a4] w fun e w' => e = .returned (.int .u32 r) ∧ Below w.heap.size w w' := by
  have hu51 := Try.underlying51
  have HR0 := Aside0.mk hr0
  have HC0 := Aside0.mk hc0
  clear hr0 hc0
  have HR1_3 := Aside0.mk hr1_3
  have HC1_3 := Aside0.mk hc1_3
  clear hr1_3 hc1_3
  have HR2 := Aside0.mk hr2
  have HC2 := Aside0.mk hc2
  clear hr2 hc2
  have HR3 := Aside0.mk hr3
  have HC3 := Aside0.mk hc3
  clear hr3 hc3
  have HB := Aside0.mk (Below.refl w.heap.size w)
  have H : (table_spans_ends.l0 k l0 l2 a4 l3 (l3.length : Int) 0 a1_0 a1_1 a1_2 l1_3) = some r := h
  clear h
  have H' := Aside0.mk H
  clear H
  go_enter Try.func135, Try.ntmps135
  go_wp2_with (first | ((with_reducible refine gate_dst (N := 6) rfl ?_); refine box_event ?hg (N := 6) ?hd (cs := #[.int .i64 a1_0, .int .i64 a1_1, .int .i64 a1_2, .slice A1_3 l1_3.length c1_3]) (t := 51) ?hr ?_; (case hd => rfl); (case hg => rfl); (case hr => first | (go_simp; done) | (go_simp; rfl)); intro gb111 hg w6 hbox hb; have n0_ := Aside0.mk (below_step (by repeat (first | (with_reducible first | exact HB.out | apply below_alloc | apply pw_below_drewN | apply below_drew1) | exact HB.out)) hb); have n1_ := Aside0.mk (hbox); have n2_ := Aside0.mk ((by rw [hg]; exact (below_size (by repeat (first | (with_reducible first | exact HB.out | apply below_alloc | apply pw_below_drewN | apply below_drew1) | exact HB.out))) : w.heap.size ≤ gb111)); have n3_ := Aside0.mk ((by rw [hg]; exact (below_size (by repeat (first | (with_reducible first | exact HB.out | apply below_alloc | apply pw_below_drewN | apply below_drew1) | exact HB.out))) : w.heap.size ≤ gb111)); clear HB; have HB := n0_; have BK111 := n1_; have GW111 := n2_; have GE111 := n3_; clear n0_ n1_ n2_ n3_; clear hb hbox hg))
  go_loopg [4, 17] k (fun kq v4 v17 w' => ∃ (x4_1 : Int) (x17_1 : Int), v4 = .int .u32 x4_1 ∧ v17 = .int .i64 x17_1 ∧ Aside0 (table_spans_ends.l0 kq l0 l2 x4_1 l3 (l3.length : Int) x17_1 a1_0 a1_1 a1_2 l1_3 = some r) ∧ Aside0 (kq ≤ k) ∧ Aside0 (w'.heap[gb111]? = some (.cells #[.int .i64 a1_0, .int .i64 a1_1, .int .i64 a1_2, (.slice A1_3 l1_3.length c1_3)] 51 (0, 0))) ∧ Aside0 (Below w.heap.size w w'))
  case atStart => exact ⟨(a4), (0), (by first | rfl | (simp; done) | (simp [*]; done)), (by first | rfl | (simp; done) | (simp [*]; done)), H', ⟨Nat.le_refl _⟩, ⟨by (with_reducible repeat (first | refine blk_drewN ?_ _ | refine blk_drew ?_ | refine blk_alloc ?_ _)); exact BK111.out⟩, ⟨by repeat (first | (with_reducible first | exact HB.out | apply below_alloc | apply pw_below_drewN | apply below_drew1 | refine below_set ?_ GE111.out) | exact HB.out)⟩⟩
  case round =>
    clear H'
    try clear c1
    try clear c2
    try clear p2
    try clear c3
    obtain ⟨x4_1, x17_1, rfl, rfl, HA, HK1, BK111, HB⟩ := hrel
    cases gk with
    | zero => exact absurd HA.out (by simp [table_spans_ends.l0])
    | succ k1 =>
      have H := HA.out
      clear HA
      simp only [table_spans_ends.l0] at H
      by_cases c7 : x17_1 < (l3.length : Int)
      · rw [if_pos c7] at H
        have c7b0 : decide (x17_1 < (l3.length : Int)) = true := decide_eq_true c7
        clear c7
        by_cases c8 : 0 ≤ x17_1
        · rw [if_pos c8] at H
          have c8b0 : decide (0 ≤ x17_1) = true := decide_eq_true c8
          clear c8
          by_cases c9 : x17_1 < (l3.length : Int)
          · rw [if_pos c9] at H
            have c9b0 : decide (x17_1 < (l3.length : Int)) = true := decide_eq_true c9
            clear c9
            have H' := Aside0.mk H
            clear H
            have p112 : 0 ≤ (x17_1 : Int) := of_decide_eq_true (by first | (with_reducible assumption) | assumption)
            have q112 : x17_1 < (l3.length : Int) := of_decide_eq_true (by first | (with_reducible assumption) | assumption)
            obtain ⟨ad112, e112, hx112_0⟩ := Kd.at_int HR3.out x17_1 p112 q112
            cases e112
            replace hx112_0 := (HB.out.cell (World.block_lt_of_cell? w _ hx112_0)).trans hx112_0
            replace p112 := eq_true p112
            replace q112 := eq_true q112
            go_wp2
            go_loopg [13, 24] k1 (fun kq v13 v24 w' => ∃ (x13_2 : Int) (x24_2 : Int), v13 = .int .u32 x13_2 ∧ v24 = .int .i64 x24_2 ∧ Aside0 (table_spans_ends.l1 kq l0 l2 x4_1 (rd l3 x17_1) x13_2 l3 (l3.length : Int) x17_1 (wrap64 ((l2.length : Int) + 1)) x24_2 a1_0 a1_1 a1_2 l1_3 = some r) ∧ Aside0 (kq ≤ k1) ∧ Aside0 (w'.heap[gb111]? = some (.cells #[.int .i64 a1_0, .int .i64 a1_1, .int .i64 a1_2, (.slice A1_3 l1_3.length c1_3)] 51 (0, 0))) ∧ Aside0 (Below w.heap.size w w'))
            case atStart => exact ⟨(0), (0), (by first | rfl | (simp; done) | (simp [*]; done)), (by first | rfl | (simp; done) | (simp [*]; done)), H', ⟨Nat.le_refl _⟩, ⟨by (with_reducible repeat (first | refine blk_drewN ?_ _ | refine blk_drew ?_ | refine blk_alloc ?_ _)); exact BK111.out⟩, ⟨by repeat (first | (with_reducible first | exact HB.out | apply below_alloc | apply pw_below_drewN | apply below_drew1 | refine below_set ?_ GE111.out) | exact HB.out)⟩⟩
            case round =>
              clear H'
              try clear c1
              try clear p1
              try clear q1
              try clear hx1
              try clear c2
              try clear p2
              try clear c3
              try clear p6
              try clear c7
              try clear c7b0
              try clear c8
              try clear c8b0
              try clear c9
              try clear c9b0
              try clear hx112_0
              try clear p112
              try clear p2
              try clear q112
              obtain ⟨x13_2, x24_2, rfl, rfl, HA, HK2, BK111, HB⟩ := hrel
              cases gk with
              | zero => exact absurd HA.out (by simp [table_spans_ends.l1])
              | succ k2 =>
                have H := HA.out
                clear HA
                simp only [table_spans_ends.l1] at H
                by_cases c10 : x24_2 < (wrap64 ((l2.length : Int) + 1))
                · rw [if_pos c10] at H
                  have c10b0 : decide (x24_2 < (wrap64 ((l2.length : Int) + 1))) = true := decide_eq_true c10
                  clear c10
                  by_cases c11 : 0 ≤ x24_2
                  · rw [if_pos c11] at H
                    have c11b0 := eq_true c11
                    have c11b1 : decide (0 ≤ x24_2) = true := decide_eq_true c11
                    clear c11
                    obtain ⟨ji12, hji12⟩ : ∃ j_ : Int, (shr .u32 x4_1 x24_2) = j_ := ⟨_, rfl⟩
                    replace H : (if (Go.bits .and .u32 (ji12) 1) = 0 then (table_spans_ends.l1 k2 l0 l2 x4_1 (rd l3 x17_1) x13_2 l3 (l3.length : Int) x17_1 (wrap64 ((l2.length : Int) + 1)) (wrap64 (x24_2 + 1)) a1_0 a1_1 a1_2 l1_3) else (if (rd l3 x17_1) ≥ a1_0 then (if 0 ≤ (wrap64 ((rd l3 x17_1) - a1_0)) then (if (wrap64 ((rd l3 x17_1) - a1_0)) < (l0.length : Int) then (if x24_2 < ((rd_L4 l0 (wrap64 ((rd l3 x17_1) - a1_0))).length : Int) then (table_spans_ends.l1 k2 l0 l2 x4_1 (rd l3 x17_1) (Go.bits .or .u32 x13_2 (rd (rd_L4 l0 (wrap64 ((rd l3 x17_1) - a1_0))) x24_2)) l3 (l3.length : Int) x17_1 (wrap64 ((l2.length : Int) + 1)) (wrap64 (x24_2 + 1)) a1_0 a1_1 a1_2 l1_3) else (none)) else (none)) else (none)) else (if x24_2 < (l2.length : Int) then (if (rd l2 x24_2) = (rd l3 x17_1) then (if 0 ≤ (wrap64 (x24_2 + 1)) then (table_spans_ends.l1 k2 l0 l2 x4_1 (rd l3 x17_1) (Go.bits .or .u32 x13_2 (shl .u32 1 (wrap64 (x24_2 + 1)))) l3 (l3.length : Int) x17_1 (wrap64 ((l2.length : Int) + 1)) (wrap64 (x24_2 + 1)) a1_0 a1_1 a1_2 l1_3) else (none)) else (table_spans_ends.l1 k2 l0 l2 x4_1 (rd l3 x17_1) x13_2 l3 (l3.length : Int) x17_1 (wrap64 ((l2.length : Int) + 1)) (wrap64 (x24_2 + 1)) a1_0 a1_1 a1_2 l1_3)) else (table_spans_ends.l1 k2 l0 l2 x4_1 (rd l3 x17_1) x13_2 l3 (l3.length : Int) x17_1 (wrap64 ((l2.length : Int) + 1)) (wrap64 (x24_2 + 1)) a1_0 a1_1 a1_2 l1_3)))) = some r := by first | (rw [hji12] at H; exact H) | (simp only [hji12] at H ⊢; exact H)
                    have hji12_ : (x4_1 / 2 ^ min x24_2.toNat 32) = ji12 := hji12
                    have hji12z : x24_2 ≤ 32 → (x4_1 / 2 ^ x24_2.toNat) = ji12 := shr_small hji12
                    by_cases c13 : (Go.bits .and .u32 (ji12) 1) = 0
                    · rw [if_pos c13] at H
                      have c13b0 : ((Go.bits .and .u32 (ji12) 1) == 0) = true := beq_iff_eq.mpr c13
                      have c13b1 : ((Go.bits .and .u32 (ji12) 1) != 0) = false := bne_eq_false_iff_eq.mpr c13
                      clear c13
                      have H' := Aside0.mk H
                      clear H
                      go_wp2
                      first | go_roundg k2 | ((simp only [← hji12]); go_roundg k2)
                      case measure => have := HK1.out; have := HK2.out; omega
                      case rel => exact ⟨(x13_2), (wrap64 (x24_2 + 1)), (by first | rfl | (simp; done) | (simp [*]; done)), (by first | rfl | (simp; done) | (simp [*]; done)), (by first | exact H' | ((simp only [hji12]); exact H') | (have h_ := H'.out; simp only [← hji12] at h_ ⊢; exact ⟨h_⟩)), ⟨by have := HK1.out; have := HK2.out; omega⟩, ⟨by (with_reducible repeat (first | refine blk_drewN ?_ _ | refine blk_drew ?_ | refine blk_alloc ?_ _)); (first | exact BK111.out | (have h_ := BK111.out; simp only [← hji12] at h_; exact h_))⟩, ⟨by repeat (first | (with_reducible first | exact HB.out | apply below_alloc | apply pw_below_drewN | apply below_drew1 | refine below_set ?_ GE111.out) | exact HB.out)⟩⟩
                    · rw [if_neg c13] at H
                      have c13b0 : ((Go.bits .and .u32 (ji12) 1) == 0) = false := beq_eq_false_iff_ne.mpr c13
                      have c13b1 : ((Go.bits .and .u32 (ji12) 1) != 0) = true := bne_iff_ne.mpr c13
                      by_cases c14 : (rd l3 x17_1) ≥ a1_0
                      · rw [if_pos c14] at H
                        have c14b0 : decide (a1_0 ≤ (rd l3 x17_1)) = true := decide_eq_true c14
                        clear c14
                        obtain ⟨ji15, hji15⟩ : ∃ j_ : Int, (wrap64 ((rd l3 x17_1) - a1_0)) = j_ := ⟨_, rfl⟩
                        replace H : (if 0 ≤ (ji15) then (if (ji15) < (l0.length : Int) then (if x24_2 < ((rd_L4 l0 (ji15)).length : Int) then (table_spans_ends.l1 k2 l0 l2 x4_1 (rd l3 x17_1) (Go.bits .or .u32 x13_2 (rd (rd_L4 l0 (ji15)) x24_2)) l3 (l3.length : Int) x17_1 (wrap64 ((l2.length : Int) + 1)) (wrap64 (x24_2 + 1)) a1_0 a1_1 a1_2 l1_3) else (none)) else (none)) else (none)) = some r := by first | (rw [hji15] at H; exact H) | (simp only [hji15] at H ⊢; exact H)
                        have hji15w : (IntKind.i64.wrap ((rd l3 x17_1) - a1_0)) = ji15 := (i64_w _).trans hji15
                        by_cases c16 : 0 ≤ (ji15)
                        · rw [if_pos c16] at H
                          have c16b0 : decide (0 ≤ (ji15)) = true := decide_eq_true c16
                          clear c16
                          by_cases c17 : (ji15) < (l0.length : Int)
                          · rw [if_pos c17] at H
                            have c17b0 : decide ((ji15) < (l0.length : Int)) = true := decide_eq_true c17
                            clear c17
                            by_cases c18 : x24_2 < ((rd_L4 l0 (ji15)).length : Int)
                            · rw [if_pos c18] at H
                              have c18b0 : decide (x24_2 < ((rd_L4 l0 (ji15)).length : Int)) = true := decide_eq_true c18
                              clear c18
                              have H' := Aside0.mk H
                              clear H
                              have hcz19_0 : wr.cell? ⟨gb111, 0, none⟩ = some (.int .i64 a1_0) := (blk_cell BK111.out 0).trans rfl
                              have hcz19_1 : wr.cell? ⟨gb111, 1, none⟩ = some (.int .i64 a1_1) := (blk_cell BK111.out 1).trans rfl
                              have hcz19_2 : wr.cell? ⟨gb111, 2, none⟩ = some (.int .i64 a1_2) := (blk_cell BK111.out 2).trans rfl
                              have hcz19_3 : wr.cell? ⟨gb111, 3, none⟩ = some (.slice A1_3 l1_3.length c1_3) := (blk_cell BK111.out 3).trans rfl
                              have hfz19_0 := blk_frozen BK111.out 0
                              have hfz19_1 := blk_frozen BK111.out 1
                              have hfz19_2 := blk_frozen BK111.out 2
                              have hfz19_3 := blk_frozen BK111.out 3
                              have p113 : 0 ≤ ((ji15) : Int) := of_decide_eq_true (by first | (with_reducible assumption) | assumption)
                              have q113 : (ji15) < (l0.length : Int) := of_decide_eq_true (by first | (with_reducible assumption) | assumption)
                              obtain ⟨ad113, A113_0, c113_0, e113, hx113_0, hl113_0, hi113_0⟩ := at_L4 HR0.out (ji15) p113 q113
                              cases e113
                              replace hx113_0 := (HB.out.cell (World.block_lt_of_cell? w _ hx113_0)).trans hx113_0
                              have HR113_0 := Aside0.mk hi113_0
                              have HC113_0 := Aside0.mk hl113_0
                              clear hi113_0 hl113_0
                              replace p113 := eq_true p113
                              replace q113 := eq_true q113
                              have p114 : 0 ≤ (x24_2 : Int) := of_decide_eq_true (by first | (with_reducible assumption) | assumption)
                              have q114 : x24_2 < ((rd_L4 l0 (ji15)).length : Int) := of_decide_eq_true (by first | (with_reducible assumption) | assumption)
                              obtain ⟨ad114, e114, hx114_0⟩ := Kd.at_int HR113_0.out x24_2 p114 q114
                              cases e114
                              replace hx114_0 := (HB.out.cell (World.block_lt_of_cell? w _ hx114_0)).trans hx114_0
                              replace p114 := eq_true p114
                              replace q114 := eq_true q114
                              go_wp2
                              first | go_roundg k2 | ((simp only [← hji12, ← hji15]); go_roundg k2)
                              case measure => have := HK1.out; have := HK2.out; omega
                              case rel => exact ⟨(Go.bits .or .u32 x13_2 (rd (rd_L4 l0 (ji15)) x24_2)), (wrap64 (x24_2 + 1)), (by first | rfl | (simp; done) | (simp only [← hji15] <;> (first | rfl | simp)) | (simp [*]; done)), (by first | rfl | (simp; done) | (simp [*]; done)), (by first | exact H' | ((simp only [hji12, hji15]); exact H') | (have h_ := H'.out; simp only [← hji12, ← hji15] at h_ ⊢; exact ⟨h_⟩)), ⟨by have := HK1.out; have := HK2.out; omega⟩, ⟨by (with_reducible repeat (first | refine blk_drewN ?_ _ | refine blk_drew ?_ | refine blk_alloc ?_ _)); (first | exact BK111.out | (have h_ := BK111.out; simp only [← hji12, ← hji15] at h_; exact h_))⟩, ⟨by repeat (first | (with_reducible first | exact HB.out | apply below_alloc | apply pw_below_drewN | apply below_drew1 | refine below_set ?_ GE111.out) | exact HB.out)⟩⟩
                            · rw [if_neg c18] at H
                              exact absurd H (by simp)
                          · rw [if_neg c17] at H
                            exact absurd H (by simp)
                        · rw [if_neg c16] at H
                          exact absurd H (by simp)
                      · rw [if_neg c14] at H
                        have c14b0 : decide (a1_0 ≤ (rd l3 x17_1)) = false := decide_eq_false c14
                        clear c14
                        by_cases c20 : x24_2 < (l2.length : Int)
                        · rw [if_pos c20] at H
                          have c20b0 : decide (x24_2 < (l2.length : Int)) = true := decide_eq_true c20
                          clear c20
                          by_cases c21 : (rd l2 x24_2) = (rd l3 x17_1)
                          · rw [if_pos c21] at H
                            have c21b0 : ((rd l2 x24_2) == (rd l3 x17_1)) = true := beq_iff_eq.mpr c21
                            have c21b1 : ((rd l2 x24_2) != (rd l3 x17_1)) = false := bne_eq_false_iff_eq.mpr c21
                            clear c21
                            obtain ⟨ji22, hji22⟩ : ∃ j_ : Int, (wrap64 (x24_2 + 1)) = j_ := ⟨_, rfl⟩
                            replace H : (if 0 ≤ (ji22) then (table_spans_ends.l1 k2 l0 l2 x4_1 (rd l3 x17_1) (Go.bits .or .u32 x13_2 (shl .u32 1 (ji22))) l3 (l3.length : Int) x17_1 (wrap64 ((l2.length : Int) + 1)) ji22 a1_0 a1_1 a1_2 l1_3) else (none)) = some r := by first | (rw [hji22] at H; exact H) | (simp only [hji22] at H ⊢; exact H)
                            have hji22w : (IntKind.i64.wrap (x24_2 + 1)) = ji22 := (i64_w _).trans hji22
                            by_cases c23 : 0 ≤ (ji22)
                            · rw [if_pos c23] at H
                              have c23b0 := eq_true c23
                              have c23b1 : decide (0 ≤ (ji22)) = true := decide_eq_true c23
                              clear c23
                              obtain ⟨ji24, hji24⟩ : ∃ j_ : Int, (shl .u32 1 (ji22)) = j_ := ⟨_, rfl⟩
                              replace H : (table_spans_ends.l1 k2 l0 l2 x4_1 (rd l3 x17_1) (Go.bits .or .u32 x13_2 (ji24)) l3 (l3.length : Int) x17_1 (wrap64 ((l2.length : Int) + 1)) ji22 a1_0 a1_1 a1_2 l1_3) = some r := by first | (rw [hji24] at H; exact H) | (simp only [hji24] at H ⊢; exact H)
                              have hji24_ : (IntKind.u32.wrap (1 * 2 ^ min (ji22).toNat 32)) = ji24 := hji24
                              have hji24z : (ji22) ≤ 32 → (IntKind.u32.wrap (1 * 2 ^ (ji22).toNat)) = ji24 := shl_small hji24
                              have hji24u : (IntKind.u32.wrap (2 ^ min (ji22).toNat 32)) = ji24 := by have h_ := hji24_; rw [Int.one_mul] at h_; exact h_
                              have hji24v : (ji22) ≤ 32 → (IntKind.u32.wrap (2 ^ (ji22).toNat)) = ji24 := fun hle_ => by have h_ := hji24z hle_; rw [Int.one_mul] at h_; exact h_
                              have H' := Aside0.mk H
                              clear H
                              have hcz25_0 : wr.cell? ⟨gb111, 0, none⟩ = some (.int .i64 a1_0) := (blk_cell BK111.out 0).trans rfl
                              have hcz25_1 : wr.cell? ⟨gb111, 1, none⟩ = some (.int .i64 a1_1) := (blk_cell BK111.out 1).trans rfl
                              have hcz25_2 : wr.cell? ⟨gb111, 2, none⟩ = some (.int .i64 a1_2) := (blk_cell BK111.out 2).trans rfl
                              have hcz25_3 : wr.cell? ⟨gb111, 3, none⟩ = some (.slice A1_3 l1_3.length c1_3) := (blk_cell BK111.out 3).trans rfl
                              have hfz25_0 := blk_frozen BK111.out 0
                              have hfz25_1 := blk_frozen BK111.out 1
                              have hfz25_2 := blk_frozen BK111.out 2
                              have hfz25_3 := blk_frozen BK111.out 3
                              have p115 : 0 ≤ (x24_2 : Int) := of_decide_eq_true (by first | (with_reducible assumption) | assumption)
                              have q115 : x24_2 < (l2.length : Int) := of_decide_eq_true (by first | (with_reducible assumption) | assumption)
                              obtain ⟨ad115, e115, hx115_0⟩ := Kd.at_int HR2.out x24_2 p115 q115
                              cases e115
                              replace hx115_0 := (HB.out.cell (World.block_lt_of_cell? w _ hx115_0)).trans hx115_0
                              replace p115 := eq_true p115
                              replace q115 := eq_true q115
                              go_wp2
                              first | go_roundg k2 | ((simp only [← hji12, ← hji22, ← hji24]); go_roundg k2)
                              case measure => have := HK1.out; have := HK2.out; omega
                              case rel => exact ⟨(Go.bits .or .u32 x13_2 (ji24)), (ji22), (by first | rfl | (simp; done) | (simp only [← hji24] <;> (first | rfl | simp)) | (simp [*]; done)), (by first | rfl | (simp; done) | (simp only [← hji22] <;> (first | rfl | simp)) | (simp [*]; done)), (by first | exact H' | ((simp only [hji12, hji22, hji24]); exact H') | (have h_ := H'.out; simp only [← hji12, ← hji22, ← hji24] at h_ ⊢; exact ⟨h_⟩)), ⟨by have := HK1.out; have := HK2.out; omega⟩, ⟨by (with_reducible repeat (first | refine blk_drewN ?_ _ | refine blk_drew ?_ | refine blk_alloc ?_ _)); (first | exact BK111.out | (have h_ := BK111.out; simp only [← hji12, ← hji22, ← hji24] at h_; exact h_))⟩, ⟨by repeat (first | (with_reducible first | exact HB.out | apply below_alloc | apply pw_below_drewN | apply below_drew1 | refine below_set ?_ GE111.out) | exact HB.out)⟩⟩
                            · rw [if_neg c23] at H
                              exact absurd H (by simp)
                          · rw [if_neg c21] at H
                            have c21b0 : ((rd l2 x24_2) == (rd l3 x17_1)) = false := beq_eq_false_iff_ne.mpr c21
                            have c21b1 : ((rd l2 x24_2) != (rd l3 x17_1)) = true := bne_iff_ne.mpr c21
                            have H' := Aside0.mk H
                            clear H
                            have hcz26_0 : wr.cell? ⟨gb111, 0, none⟩ = some (.int .i64 a1_0) := (blk_cell BK111.out 0).trans rfl
                            have hcz26_1 : wr.cell? ⟨gb111, 1, none⟩ = some (.int .i64 a1_1) := (blk_cell BK111.out 1).trans rfl
                            have hcz26_2 : wr.cell? ⟨gb111, 2, none⟩ = some (.int .i64 a1_2) := (blk_cell BK111.out 2).trans rfl
                            have hcz26_3 : wr.cell? ⟨gb111, 3, none⟩ = some (.slice A1_3 l1_3.length c1_3) := (blk_cell BK111.out 3).trans rfl
                            have hfz26_0 := blk_frozen BK111.out 0
                            have hfz26_1 := blk_frozen BK111.out 1
                            have hfz26_2 := blk_frozen BK111.out 2
                            have hfz26_3 := blk_frozen BK111.out 3
                            have p115 : 0 ≤ (x24_2 : Int) := of_decide_eq_true (by first | (with_reducible assumption) | assumption)
                            have q115 : x24_2 < (l2.length : Int) := of_decide_eq_true (by first | (with_reducible assumption) | assumption)
                            obtain ⟨ad115, e115, hx115_0⟩ := Kd.at_int HR2.out x24_2 p115 q115
                            cases e115
                            replace hx115_0 := (HB.out.cell (World.block_lt_of_cell? w _ hx115_0)).trans hx115_0
                            replace p115 := eq_true p115
                            replace q115 := eq_true q115
                            go_wp2
                            first | go_roundg k2 | ((simp only [← hji12]); go_roundg k2)
                            case measure => have := HK1.out; have := HK2.out; omega
                            case rel => exact ⟨(x13_2), (wrap64 (x24_2 + 1)), (by first | rfl | (simp; done) | (simp [*]; done)), (by first | rfl | (simp; done) | (simp [*]; done)), (by first | exact H' | ((simp only [hji12]); exact H') | (have h_ := H'.out; simp only [← hji12] at h_ ⊢; exact ⟨h_⟩)), ⟨by have := HK1.out; have := HK2.out; omega⟩, ⟨by (with_reducible repeat (first | refine blk_drewN ?_ _ | refine blk_drew ?_ | refine blk_alloc ?_ _)); (first | exact BK111.out | (have h_ := BK111.out; simp only [← hji12] at h_; exact h_))⟩, ⟨by repeat (first | (with_reducible first | exact HB.out | apply below_alloc | apply pw_below_drewN | apply below_drew1 | refine below_set ?_ GE111.out) | exact HB.out)⟩⟩
                        · rw [if_neg c20] at H
                          have c20b0 : decide (x24_2 < (l2.length : Int)) = false := decide_eq_false c20
                          clear c20
                          have H' := Aside0.mk H
                          clear H
                          have hcz27_0 : wr.cell? ⟨gb111, 0, none⟩ = some (.int .i64 a1_0) := (blk_cell BK111.out 0).trans rfl
                          have hcz27_1 : wr.cell? ⟨gb111, 1, none⟩ = some (.int .i64 a1_1) := (blk_cell BK111.out 1).trans rfl
                          have hcz27_2 : wr.cell? ⟨gb111, 2, none⟩ = some (.int .i64 a1_2) := (blk_cell BK111.out 2).trans rfl
                          have hcz27_3 : wr.cell? ⟨gb111, 3, none⟩ = some (.slice A1_3 l1_3.length c1_3) := (blk_cell BK111.out 3).trans rfl
                          have hfz27_0 := blk_frozen BK111.out 0
                          have hfz27_1 := blk_frozen BK111.out 1
                          have hfz27_2 := blk_frozen BK111.out 2
                          have hfz27_3 := blk_frozen BK111.out 3
                          go_wp2
                          first | go_roundg k2 | ((simp only [← hji12]); go_roundg k2)
                          case measure => have := HK1.out; have := HK2.out; omega
                          case rel => exact ⟨(x13_2), (wrap64 (x24_2 + 1)), (by first | rfl | (simp; done) | (simp [*]; done)), (by first | rfl | (simp; done) | (simp [*]; done)), (by first | exact H' | ((simp only [hji12]); exact H') | (have h_ := H'.out; simp only [← hji12] at h_ ⊢; exact ⟨h_⟩)), ⟨by have := HK1.out; have := HK2.out; omega⟩, ⟨by (with_reducible repeat (first | refine blk_drewN ?_ _ | refine blk_drew ?_ | refine blk_alloc ?_ _)); (first | exact BK111.out | (have h_ := BK111.out; simp only [← hji12] at h_; exact h_))⟩, ⟨by repeat (first | (with_reducible first | exact HB.out | apply below_alloc | apply pw_below_drewN | apply below_drew1 | refine below_set ?_ GE111.out) | exact HB.out)⟩⟩
                  · rw [if_neg c11] at H
                    exact absurd H (by simp)
                · rw [if_neg c10] at H
                  have c10b0 : decide (x24_2 < (wrap64 ((l2.length : Int) + 1))) = false := decide_eq_false c10
                  clear c10
                  have H' := Aside0.mk H
                  clear H
                  go_wp2
                  go_roundg k2
                  case measure => have := HK1.out; have := HK2.out; omega
                  case rel => exact ⟨(x13_2), (wrap64 (x17_1 + 1)), (by first | rfl | (simp; done) | (simp [*]; done)), (by first | rfl | (simp; done) | (simp [*]; done)), H', ⟨by have := HK1.out; have := HK2.out; omega⟩, ⟨by (with_reducible repeat (first | refine blk_drewN ?_ _ | refine blk_drew ?_ | refine blk_alloc ?_ _)); exact BK111.out⟩, ⟨by repeat (first | (with_reducible first | exact HB.out | apply below_alloc | apply pw_below_drewN | apply below_drew1 | refine below_set ?_ GE111.out) | exact HB.out)⟩⟩
          · rw [if_neg c9] at H
            exact absurd H (by simp)
        · rw [if_neg c8] at H
          exact absurd H (by simp)
      · rw [if_neg c7] at H
        have c7b0 : decide (x17_1 < (l3.length : Int)) = false := decide_eq_false c7
        clear c7
        obtain rfl := Option.some.inj H
        go_wp2
        go_ret
        exact ⟨by first | rfl | (simp [errW_none, errW_some] <;> rfl) | (simp [*, errW_none, errW_some] <;> rfl), by repeat (first | (with_reducible first | exact HB.out | apply below_alloc | apply pw_below_drewN | apply below_drew1 | refine below_set ?_ GE111.out) | exact HB.out)⟩

end Go.Proofs.Ythgiiikjcfhgjaa.GU
