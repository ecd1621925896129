-- Written by ext.py, a program of this session.
import Derived.Test.YtnkackiocigdoaaGD0
import Derived.Test.YtnkackiocigdoaaGD6
import Derived.Test.YtnkackiocigdoaaGD8
namespace Go.Proofs.Ytnkackiocigdoaa.GD
open Go.RowKit Go.Proofs.YtnkackiocigdoaaW.PrintWords Go.Proofs.YtnkackiocigdoaaW.PrintLast Go.Proofs.YtnkackiocigdoaaW.PrintMore
attribute [local go_sem] max2_int min2_int max_two min_two max_three min_three max_four min_four cellIs_set   -- for this text's walks alone
set_option linter.unusedVariables false
set_option linter.unusedSimpArgs false

/-! ### table_Names: function 20 -/
def table_Names.l0 : Nat → List Int → Int → List (List Int) → Int → Int → Option (Int × Int)
  | 0, _, _, _, _, _ => none
  | k + 1, x1, x7, x18, x19, x20 => if x20 < x19 then (if 0 ≤ x20 then (if x20 < (x18.length : Int) then (if 0 < ((rd_L4 x18 x20).length : Int) then (table_Names.l0 k x1 (Go.bits .or .u32 x7 (shl .u32 (Go.bits .and .u32 (shr .u32 (rd (rd_L4 x18 x20) 0) (x1.length : Int)) 1) x20)) x18 x19 (wrap64 (x20 + 1))) else (none)) else (none)) else (none)) else (some (x7, 0))
def table_Names.f (k : Nat) (a0_0 : Int) (a0_1 : Int) (a0_2 : Int) (l0_3 : List (S27)) (l1 : List Int) : Option (Int × Int) := (table_wrong.f k a0_0 a0_1 a0_2 l0_3 l1).bind fun t156 => (if t156 = 0 then ((table_fill.f k a0_0 a0_1 a0_2 l0_3 l1).bind fun t157 => (table_Names.l0 k l1 0 t157 (t157.length : Int) 0)) else (some (0, t156)))
theorem table_Names.mono_l : ∀ k, (∀ y0 y1 y2 y3 y4, LeO (table_Names.l0 k y0 y1 y2 y3 y4) (table_Names.l0 (k + 1) y0 y1 y2 y3 y4))
  | 0 => fun _ _ _ _ _ r h => by simp [table_Names.l0] at h
  | k + 1 => by
    have ih0 := table_Names.mono_l k
    · intro y0 y1 y2 y3 y4
      unfold table_Names.l0
      repeat' first
      | (with_reducible exact ih0 _ _ _ _ _)
      | (with_reducible exact table_fill.mono _ _ _ _ _ _)
      | (with_reducible exact table_wrong.mono _ _ _ _ _ _)
      | (with_reducible exact LeO.refl _)
      | (with_reducible exact LeO.none _)
      | (with_reducible refine LeO.ite ?_ ?_)
      | (with_reducible refine LeO.bind ?_ (fun _ => ?_))
      | exact ih0 _ _ _ _ _
      | exact table_fill.mono _ _ _ _ _ _
      | exact table_wrong.mono _ _ _ _ _ _
      | exact LeO.none _
      | refine LeO.ite ?_ ?_
      | refine LeO.bind ?_ (fun _ => ?_)
theorem table_Names.mono : ∀ a0 a1 a2 a3 a4 k, LeO (table_Names.f k a0 a1 a2 a3 a4) (table_Names.f (k + 1) a0 a1 a2 a3 a4) := by
  intro a0 a1 a2 a3 a4 k
  have ih0 := table_Names.mono_l k
  unfold table_Names.f
  repeat' first
      | (with_reducible exact ih0 _ _ _ _ _)
      | (with_reducible exact table_fill.mono _ _ _ _ _ _)
      | (with_reducible exact table_wrong.mono _ _ _ _ _ _)
      | (with_reducible exact LeO.refl _)
      | (with_reducible exact LeO.none _)
      | (with_reducible refine LeO.ite ?_ ?_)
      | (with_reducible refine LeO.bind ?_ (fun _ => ?_))
      | exact ih0 _ _ _ _ _
      | exact table_fill.mono _ _ _ _ _ _
      | exact table_wrong.mono _ _ _ _ _ _
      | exact LeO.none _
      | refine LeO.ite ?_ ?_
      | refine LeO.bind ?_ (fun _ => ?_)
set_option maxHeartbeats 8000000 in
set_option maxRecDepth 100000 in
theorem table_Names.calls (k : Nat) (a0_0 : Int) (a0_1 : Int) (a0_2 : Int) (A0_3 : Option Addr) (c0_3 : Nat) (l0_3 : List (S27)) (A1 : Option Addr) (c1 : Nat) (l1 : List Int) (r1 : Int) (r2 : Int) (w : World) (hr0_3 : Kd.C k27 w A0_3 l0_3.length l0_3) (hc0_3 : l0_3.length ≤ c0_3) (hr1 : Kd.C (Kd.int .i64) w A1 l1.length l1) (hc1 : l1.length ≤ c1) (h : table_Names.f k a0_0 a0_1 a0_2 l0_3 l1 = some (r1, r2)) :
    Calls Try.prog 20 #[.agg #[.int .i64 a0_0, .int .i64 a0_1, .int .i64 a0_2, .slice A0_3 l0_3.length c0_3], .slice A1 l1.length c1] w fun e w' => e = .returned (.tuple #[.int .u32 r1, .int .i64 r2]) ∧ Below w.heap.size w w' := by
  have hu24 := Try.underlying24
  have HR0_3 := Aside0.mk hr0_3
  have HC0_3 := Aside0.mk hc0_3
  clear hr0_3 hc0_3
  have HR1 := Aside0.mk hr1
  have HC1 := Aside0.mk hc1
  clear hr1 hc1
  have HB := Aside0.mk (Below.refl w.heap.size w)
  have H : ((table_wrong.f k a0_0 a0_1 a0_2 l0_3 l1).bind fun t156 => (if t156 = 0 then ((table_fill.f k a0_0 a0_1 a0_2 l0_3 l1).bind fun t157 => (table_Names.l0 k l1 0 t157 (t157.length : Int) 0)) else (some (0, t156)))) = some (r1, r2) := h
  clear h
  replace H := Option.bind_eq_some_iff.mp H
  obtain ⟨t156, A30, H⟩ := H
  replace H : (if t156 = 0 then ((table_fill.f k a0_0 a0_1 a0_2 l0_3 l1).bind fun t157 => (table_Names.l0 k l1 0 t157 (t157.length : Int) 0)) else (some (0, t156))) = some (r1, r2) := H
  have A3 := Aside0.mk A30
  clear A30
  by_cases c4 : t156 = 0
  · rw [if_pos c4] at H
    have c4b0 : (t156 == 0) = true := beq_iff_eq.mpr c4
    have c4b1 : (t156 != 0) = false := bne_eq_false_iff_eq.mpr c4
    clear c4
    replace H := Option.bind_eq_some_iff.mp H
    obtain ⟨t157, A50, H⟩ := H
    replace H : (table_Names.l0 k l1 0 t157 (t157.length : Int) 0) = some (r1, r2) := H
    have A5 := Aside0.mk A50
    clear A50
    have H' := Aside0.mk H
    clear H
    go_enter Try.func20, Try.ntmps20
    go_wp2_with (first | ((with_reducible refine gate_dst (N := 2) rfl ?_); refine box_event ?hg (N := 2) ?hd (cs := #[.int .i64 a0_0, .int .i64 a0_1, .int .i64 a0_2, .slice A0_3 l0_3.length c0_3]) (t := 24) ?hr ?_; (case hd => rfl); (case hg => rfl); (case hr => first | (go_simp; done) | (go_simp; rfl)); intro gb155 hg w6 hbox hb; have n0_ := Aside0.mk (below_step (by repeat (first | (with_reducible first | exact HB.out | apply below_alloc | apply pw_below_drewN | apply below_drew1) | exact HB.out)) hb); have n1_ := Aside0.mk (hbox); have n2_ := Aside0.mk ((by rw [hg]; exact (below_size (by repeat (first | (with_reducible first | exact HB.out | apply below_alloc | apply pw_below_drewN | apply below_drew1) | exact HB.out))) : w.heap.size ≤ gb155)); have n3_ := Aside0.mk ((by rw [hg]; exact (below_size (by repeat (first | (with_reducible first | exact HB.out | apply below_alloc | apply pw_below_drewN | apply below_drew1) | exact HB.out))) : w.heap.size ≤ gb155)); clear HB; have HB := n0_; have BK155 := n1_; have GW155 := n2_; have GE155 := n3_; clear n0_ n1_ n2_ n3_; clear hb hbox hg; have hcz7_0 : w6.cell? ⟨gb155, 0, none⟩ = some (.int .i64 a0_0) := (blk_cell BK155.out 0).trans rfl; have hcz7_1 : w6.cell? ⟨gb155, 1, none⟩ = some (.int .i64 a0_1) := (blk_cell BK155.out 1).trans rfl; have hcz7_2 : w6.cell? ⟨gb155, 2, none⟩ = some (.int .i64 a0_2) := (blk_cell BK155.out 2).trans rfl; have hcz7_3 : w6.cell? ⟨gb155, 3, none⟩ = some (.slice A0_3 l0_3.length c0_3) := (blk_cell BK155.out 3).trans rfl; have hfz7_0 := blk_frozen BK155.out 0; have hfz7_1 := blk_frozen BK155.out 1; have hfz7_2 := blk_frozen BK155.out 2; have hfz7_3 := blk_frozen BK155.out 3) | ((with_reducible refine gate_callee (f := 43) rfl ?_); refine goesL_ (some 12) rfl rfl Try.func43 (by kernel_rfl) rfl #[.agg #[.int .i64 a0_0, .int .i64 a0_1, .int .i64 a0_2, .slice A0_3 l0_3.length c0_3], .slice A1 l1.length c1] rfl (by (try simp only [List.map_toArray, List.map_cons, List.map_nil]); first | done | rfl | (simp only [List.length_drop, List.length_take]; rfl)) ?_; (with_reducible refine (table_wrong.calls k a0_0 a0_1 a0_2 _ _ l0_3 _ _ l1 t156 _ ?side1 ?side2 ?side3 ?side4 A3.out).mono ?_); (case side1 => repeat (first | exact (Kd.C_below HR0_3.out HB.out) | (with_reducible refine Kd.C_alloc ?_ _) | (with_reducible refine Kd.C_drewN ?_ _) | (with_reducible refine Kd.C_drew ?_))); (case side2 => exact HC0_3.out); (case side3 => repeat (first | exact (Kd.C_below HR1.out HB.out) | (with_reducible refine Kd.C_alloc ?_ _) | (with_reducible refine Kd.C_drewN ?_ _) | (with_reducible refine Kd.C_drew ?_))); (case side4 => exact HC1.out); rintro e w8 ⟨rfl, hb⟩; refine ⟨_, rfl, ?_⟩; have n0_ := Aside0.mk (blk_below (g := gb155) (o := .cells #[.int .i64 a0_0, .int .i64 a0_1, .int .i64 a0_2, .slice A0_3 l0_3.length c0_3] 24 (0, 0)) (by (with_reducible repeat (first | refine blk_drewN ?_ _ | refine blk_drew ?_ | refine blk_alloc ?_ _)); exact BK155.out) hb); have n1_ := Aside0.mk (below_step (by repeat (first | (with_reducible first | exact HB.out | apply below_alloc | apply pw_below_drewN | apply below_drew1 | refine below_set ?_ GE155.out) | exact HB.out)) hb); clear BK155; clear HB; have BK155 := n0_; have HB := n1_; clear n0_ n1_; (try clear hb); (try clear hb2); (try clear hk); (try clear hi); have hcz9_0 : w8.cell? ⟨gb155, 0, none⟩ = some (.int .i64 a0_0) := (blk_cell BK155.out 0).trans rfl; have hcz9_1 : w8.cell? ⟨gb155, 1, none⟩ = some (.int .i64 a0_1) := (blk_cell BK155.out 1).trans rfl; have hcz9_2 : w8.cell? ⟨gb155, 2, none⟩ = some (.int .i64 a0_2) := (blk_cell BK155.out 2).trans rfl; have hcz9_3 : w8.cell? ⟨gb155, 3, none⟩ = some (.slice A0_3 l0_3.length c0_3) := (blk_cell BK155.out 3).trans rfl; have hfz9_0 := blk_frozen BK155.out 0; have hfz9_1 := blk_frozen BK155.out 1; have hfz9_2 := blk_frozen BK155.out 2; have hfz9_3 := blk_frozen BK155.out 3) | ((with_reducible refine gate_callee (f := 44) rfl ?_); refine goesL_ (some 18) rfl rfl Try.func44 (by kernel_rfl) rfl #[.agg #[.int .i64 a0_0, .int .i64 a0_1, .int .i64 a0_2, .slice A0_3 l0_3.length c0_3], .slice A1 l1.length c1] rfl (by (try simp only [List.map_toArray, List.map_cons, List.map_nil]); first | done | rfl | (simp only [List.length_drop, List.length_take]; rfl)) ?_; (with_reducible refine (table_fill.calls k a0_0 a0_1 a0_2 _ _ l0_3 _ _ l1 t157 _ ?side1 ?side2 ?side3 ?side4 A5.out).mono ?_); (case side1 => repeat (first | exact (Kd.C_below HR0_3.out HB.out) | (with_reducible refine Kd.C_alloc ?_ _) | (with_reducible refine Kd.C_drewN ?_ _) | (with_reducible refine Kd.C_drew ?_))); (case side2 => exact HC0_3.out); (case side3 => repeat (first | exact (Kd.C_below HR1.out HB.out) | (with_reducible refine Kd.C_alloc ?_ _) | (with_reducible refine Kd.C_drewN ?_ _) | (with_reducible refine Kd.C_drew ?_))); (case side4 => exact HC1.out); rintro e w10 ⟨v158, rfl, ho0, hb⟩; refine ⟨_, rfl, ?_⟩; have n0_ := Aside0.mk (Kd.S_lower ho0 (below_size (by repeat (first | (with_reducible first | exact HB.out | apply below_alloc | apply pw_below_drewN | apply below_drew1 | refine below_set ?_ GE155.out) | exact HB.out)))); have n1_ := Aside0.mk (blk_below (g := gb155) (o := .cells #[.int .i64 a0_0, .int .i64 a0_1, .int .i64 a0_2, .slice A0_3 l0_3.length c0_3] 24 (0, 0)) (by (with_reducible repeat (first | refine blk_drewN ?_ _ | refine blk_drew ?_ | refine blk_alloc ?_ _)); exact BK155.out) hb); have n2_ := Aside0.mk (below_step (by repeat (first | (with_reducible first | exact HB.out | apply below_alloc | apply pw_below_drewN | apply below_drew1 | refine below_set ?_ GE155.out) | exact HB.out)) hb); clear BK155; clear HB; have HO159 := n0_; have BK155 := n1_; have HB := n2_; clear n0_ n1_ n2_; (try clear hb); (try clear hb2); (try clear hk); (try clear hi); (try clear ho0); obtain ⟨Ao11, co11, eo11⟩ := Kd.S_slice HO159.out; subst eo11))
    go_loopg [7, 20] k (fun kq v7 v20 w' => ∃ (x7_1 : Int) (x20_1 : Int), v7 = .int .u32 x7_1 ∧ v20 = .int .i64 x20_1 ∧ Aside0 (table_Names.l0 kq l1 x7_1 t157 (t157.length : Int) x20_1 = some (r1, r2)) ∧ Aside0 (kq ≤ k) ∧ Aside0 (Kd.S (Kd.slice 28 (Kd.int .u32)) 49 w' w.heap.size (fun _ => True) (.slice Ao11 t157.length co11) t157) ∧ Aside0 (w'.heap[gb155]? = some (.cells #[.int .i64 a0_0, .int .i64 a0_1, .int .i64 a0_2, (.slice A0_3 l0_3.length c0_3)] 24 (0, 0))) ∧ Aside0 (Below w.heap.size w w'))
    case atStart => exact ⟨(0), (0), (by first | rfl | (simp; done) | (simp [*]; done)), (by first | rfl | (simp; done) | (simp [*]; done)), H', ⟨Nat.le_refl _⟩, ⟨by (with_reducible repeat (first | apply Kd.S_alloc | apply Kd.S_drewN | apply Kd.S_drew)); exact HO159.out⟩, ⟨by (with_reducible repeat (first | refine blk_drewN ?_ _ | refine blk_drew ?_ | refine blk_alloc ?_ _)); exact BK155.out⟩, ⟨by repeat (first | (with_reducible first | exact HB.out | apply below_alloc | apply pw_below_drewN | apply below_drew1 | refine below_set ?_ GE155.out) | exact HB.out)⟩⟩
    case round =>
      clear H'
      try clear c1
      try clear c2
      try clear p2
      try clear c4
      try clear c4b0
      try clear c4b1
      try clear hcz7_0
      try clear hcz7_1
      try clear hcz7_2
      try clear hcz7_3
      try clear hcz9_0
      try clear hcz9_1
      try clear hcz9_2
      try clear hcz9_3
      try clear hfz7_0
      try clear hfz7_1
      try clear hfz7_2
      try clear hfz7_3
      try clear hfz9_0
      try clear hfz9_1
      try clear hfz9_2
      try clear hfz9_3
      obtain ⟨x7_1, x20_1, rfl, rfl, HA, HK1, HO_18, BK155, HB⟩ := hrel
      cases gk with
      | zero => exact absurd HA.out (by simp [table_Names.l0])
      | succ k1 =>
        have H := HA.out
        clear HA
        simp only [table_Names.l0] at H
        by_cases c12 : x20_1 < (t157.length : Int)
        · rw [if_pos c12] at H
          have c12b0 : decide (x20_1 < (t157.length : Int)) = true := decide_eq_true c12
          clear c12
          by_cases c13 : 0 ≤ x20_1
          · rw [if_pos c13] at H
            have c13b0 : decide (0 ≤ x20_1) = true := decide_eq_true c13
            clear c13
            by_cases c14 : x20_1 < (t157.length : Int)
            · rw [if_pos c14] at H
              have c14b0 : decide (x20_1 < (t157.length : Int)) = true := decide_eq_true c14
              clear c14
              by_cases c15 : 0 < ((rd_L4 t157 x20_1).length : Int)
              · rw [if_pos c15] at H
                have c15b0 : decide (0 < ((rd_L4 t157 x20_1).length : Int)) = true := decide_eq_true c15
                have c15b1 : decide (0 < (rd_L4 t157 x20_1).length) = true := decide_eq_true (by omega)
                clear c15
                obtain ⟨ji16, hji16⟩ : ∃ j_ : Int, (shr .u32 (rd (rd_L4 t157 x20_1) 0) (l1.length : Int)) = j_ := ⟨_, rfl⟩
                replace H : (table_Names.l0 k1 l1 (Go.bits .or .u32 x7_1 (shl .u32 (Go.bits .and .u32 (ji16) 1) x20_1)) t157 (t157.length : Int) (wrap64 (x20_1 + 1))) = some (r1, r2) := by first | (rw [hji16] at H; exact H) | (simp only [hji16] at H ⊢; exact H)
                have hji16_ : ((rd (rd_L4 t157 x20_1) 0) / 2 ^ min (l1.length : Int).toNat 32) = ji16 := hji16
                have hji16z : (l1.length : Int) ≤ 32 → ((rd (rd_L4 t157 x20_1) 0) / 2 ^ (l1.length : Int).toNat) = ji16 := shr_small hji16
                have hji16p : ((rd (rd_L4 t157 x20_1) 0) / 2 ^ min l1.length 32) = ji16 := hji16_
                have hji16q : (l1.length : Int) ≤ 32 → ((rd (rd_L4 t157 x20_1) 0) / 2 ^ l1.length) = ji16 := hji16z
                have c17b0 := eq_true (of_decide_eq_true (by first | (with_reducible assumption) | assumption) : 0 ≤ x20_1)
                obtain ⟨ji18, hji18⟩ : ∃ j_ : Int, (shl .u32 (Go.bits .and .u32 (ji16) 1) x20_1) = j_ := ⟨_, rfl⟩
                replace H : (table_Names.l0 k1 l1 (Go.bits .or .u32 x7_1 (ji18)) t157 (t157.length : Int) (wrap64 (x20_1 + 1))) = some (r1, r2) := by first | (rw [hji18] at H; exact H) | (simp only [hji18] at H ⊢; exact H)
                have hji18_ : (IntKind.u32.wrap ((Go.bits .and .u32 (ji16) 1) * 2 ^ min x20_1.toNat 32)) = ji18 := hji18
                have hji18z : x20_1 ≤ 32 → (IntKind.u32.wrap ((Go.bits .and .u32 (ji16) 1) * 2 ^ x20_1.toNat)) = ji18 := shl_small hji18
                have H' := Aside0.mk H
                clear H
                have p160 : 0 ≤ (x20_1 : Int) := of_decide_eq_true (by first | (with_reducible assumption) | assumption)
                have q160 : x20_1 < (t157.length : Int) := of_decide_eq_true (by first | (with_reducible assumption) | assumption)
                obtain ⟨ad160, A160_0, c160_0, e160, hx160_0, hl160_0, hi160_0⟩ := at_L4 (Kd.S_reads' HO_18.out).2.2 x20_1 p160 q160
                cases e160
                obtain ⟨ce160, hce160, hMe160, hcc160⟩ := Kd.S_get HO_18.out [] x20_1 p160 (by first | exact q160 | exact of_decide_eq_true (by first | (with_reducible assumption) | assumption) | (have e_ := (Kd.S_reads' HO_18.out).1; omega))
                obtain ⟨ve160_0, rfl, ge160_0⟩ := id hMe160
                have hv160_0 := hcc160 0 _ rfl
                rw [Nat.add_zero, show ((Kd.slice 28 (Kd.int .u32))).sz = 1 from rfl, Nat.mul_one] at hv160_0
                replace hv160_0 := Option.some.inj (hv160_0.symm.trans hx160_0)
                rw [hv160_0] at ge160_0
                have HL160_0 := Aside0.mk (show Kd.R (Kd.int .u32) 28 _ _ _ _ (rd_L4 t157 x20_1) from ge160_0)
                clear hv160_0 ge160_0
                clear hcc160 hce160
                have HR160_0 := Aside0.mk hi160_0
                have HC160_0 := Aside0.mk hl160_0
                clear hi160_0 hl160_0
                replace p160 := eq_true p160
                replace q160 := eq_true q160
                have p161 : 0 ≤ (0 : Int) := (by omega)
                have q161 : 0 < ((rd_L4 t157 x20_1).length : Int) := of_decide_eq_true (by first | (with_reducible assumption) | assumption)
                obtain ⟨ad161, e161, hx161_0⟩ := Kd.at_int (by repeat (first | (with_reducible exact HR160_0.out) | (with_reducible refine Kd.C_alloc ?_ _) | (with_reducible refine Kd.C_drewN ?_ _) | (with_reducible refine Kd.C_drew ?_) | exact HR160_0.out)) 0 p161 q161
                cases e161
                have qi161 : (0 < (rd_L4 t157 x20_1).length) = True := eq_true (by omega)
                (try rw [show ((0 : Int)).toNat = 0 from rfl] at hx161_0)
                (try rw [Addr.add_zero'] at hx161_0)
                replace p161 := eq_true p161
                replace q161 := eq_true q161
                go_wp2
                first | go_roundg k1 | ((simp only [← hji16, ← hji18]); go_roundg k1)
                case measure => have := HK1.out; omega
                case rel => exact ⟨(Go.bits .or .u32 x7_1 (ji18)), (wrap64 (x20_1 + 1)), (by first | rfl | (simp; done) | (simp only [← hji18] <;> (first | rfl | simp)) | (simp [*]; done)), (by first | rfl | (simp; done) | (simp [*]; done)), (by first | exact H' | ((simp only [hji16, hji18]); exact H') | (have h_ := H'.out; simp only [← hji16, ← hji18] at h_ ⊢; exact ⟨h_⟩)), ⟨by have := HK1.out; omega⟩, ⟨by (with_reducible repeat (first | apply Kd.S_alloc | apply Kd.S_drewN | apply Kd.S_drew)); exact HO_18.out⟩, ⟨by (with_reducible repeat (first | refine blk_drewN ?_ _ | refine blk_drew ?_ | refine blk_alloc ?_ _)); exact BK155.out⟩, ⟨by repeat (first | (with_reducible first | exact HB.out | apply below_alloc | apply pw_below_drewN | apply below_drew1 | refine below_set ?_ GE155.out) | exact HB.out)⟩⟩
              · rw [if_neg c15] at H
                exact absurd H (by simp)
            · rw [if_neg c14] at H
              exact absurd H (by simp)
          · rw [if_neg c13] at H
            exact absurd H (by simp)
        · rw [if_neg c12] at H
          have c12b0 : decide (x20_1 < (t157.length : Int)) = false := decide_eq_false c12
          clear c12
          simp only [Option.some.injEq, Prod.mk.injEq] at H
          obtain ⟨rfl, rfl⟩ := H
          go_wp2
          go_ret2
          exact ⟨by first | rfl | (simp [errW_none, errW_some] <;> rfl) | (simp [*, errW_none, errW_some] <;> rfl), by repeat (first | (with_reducible first | exact HB.out | apply below_alloc | apply pw_below_drewN | apply below_drew1 | refine below_set ?_ GE155.out) | exact HB.out)⟩
  · rw [if_neg c4] at H
    have c4b0 : (t156 == 0) = false := beq_eq_false_iff_ne.mpr c4
    have c4b1 : (t156 != 0) = true := bne_iff_ne.mpr c4
    simp only [Option.some.injEq, Prod.mk.injEq] at H
    obtain ⟨rfl, rfl⟩ := H
    go_enter Try.func20, Try.ntmps20
    go_wp2_with (first | ((with_reducible refine gate_dst (N := 2) rfl ?_); refine box_event ?hg (N := 2) ?hd (cs := #[.int .i64 a0_0, .int .i64 a0_1, .int .i64 a0_2, .slice A0_3 l0_3.length c0_3]) (t := 24) ?hr ?_; (case hd => rfl); (case hg => rfl); (case hr => first | (go_simp; done) | (go_simp; rfl)); intro gb155 hg w19 hbox hb; have n0_ := Aside0.mk (below_step (by repeat (first | (with_reducible first | exact HB.out | apply below_alloc | apply pw_below_drewN | apply below_drew1) | exact HB.out)) hb); have n1_ := Aside0.mk (hbox); have n2_ := Aside0.mk ((by rw [hg]; exact (below_size (by repeat (first | (with_reducible first | exact HB.out | apply below_alloc | apply pw_below_drewN | apply below_drew1) | exact HB.out))) : w.heap.size ≤ gb155)); have n3_ := Aside0.mk ((by rw [hg]; exact (below_size (by repeat (first | (with_reducible first | exact HB.out | apply below_alloc | apply pw_below_drewN | apply below_drew1) | exact HB.out))) : w.heap.size ≤ gb155)); clear HB; have HB := n0_; have BK155 := n1_; have GW155 := n2_; have GE155 := n3_; clear n0_ n1_ n2_ n3_; clear hb hbox hg; have hcz20_0 : w19.cell? ⟨gb155, 0, none⟩ = some (.int .i64 a0_0) := (blk_cell BK155.out 0).trans rfl; have hcz20_1 : w19.cell? ⟨gb155, 1, none⟩ = some (.int .i64 a0_1) := (blk_cell BK155.out 1).trans rfl; have hcz20_2 : w19.cell? ⟨gb155, 2, none⟩ = some (.int .i64 a0_2) := (blk_cell BK155.out 2).trans rfl; have hcz20_3 : w19.cell? ⟨gb155, 3, none⟩ = some (.slice A0_3 l0_3.length c0_3) := (blk_cell BK155.out 3).trans rfl; have hfz20_0 := blk_frozen BK155.out 0; have hfz20_1 := blk_frozen BK155.out 1; have hfz20_2 := blk_frozen BK155.out 2; have hfz20_3 := blk_frozen BK155.out 3) | ((with_reducible refine gate_callee (f := 43) rfl ?_); refine goesL_ (some 12) rfl rfl Try.func43 (by kernel_rfl) rfl #[.agg #[.int .i64 a0_0, .int .i64 a0_1, .int .i64 a0_2, .slice A0_3 l0_3.length c0_3], .slice A1 l1.length c1] rfl (by (try simp only [List.map_toArray, List.map_cons, List.map_nil]); first | done | rfl | (simp only [List.length_drop, List.length_take]; rfl)) ?_; (with_reducible refine (table_wrong.calls k a0_0 a0_1 a0_2 _ _ l0_3 _ _ l1 t156 _ ?side1 ?side2 ?side3 ?side4 A3.out).mono ?_); (case side1 => repeat (first | exact (Kd.C_below HR0_3.out HB.out) | (with_reducible refine Kd.C_alloc ?_ _) | (with_reducible refine Kd.C_drewN ?_ _) | (with_reducible refine Kd.C_drew ?_))); (case side2 => exact HC0_3.out); (case side3 => repeat (first | exact (Kd.C_below HR1.out HB.out) | (with_reducible refine Kd.C_alloc ?_ _) | (with_reducible refine Kd.C_drewN ?_ _) | (with_reducible refine Kd.C_drew ?_))); (case side4 => exact HC1.out); rintro e w21 ⟨rfl, hb⟩; refine ⟨_, rfl, ?_⟩; have n0_ := Aside0.mk (blk_below (g := gb155) (o := .cells #[.int .i64 a0_0, .int .i64 a0_1, .int .i64 a0_2, .slice A0_3 l0_3.length c0_3] 24 (0, 0)) (by (with_reducible repeat (first | refine blk_drewN ?_ _ | refine blk_drew ?_ | refine blk_alloc ?_ _)); exact BK155.out) hb); have n1_ := Aside0.mk (below_step (by repeat (first | (with_reducible first | exact HB.out | apply below_alloc | apply pw_below_drewN | apply below_drew1 | refine below_set ?_ GE155.out) | exact HB.out)) hb); clear BK155; clear HB; have BK155 := n0_; have HB := n1_; clear n0_ n1_; (try clear hb); (try clear hb2); (try clear hk); (try clear hi)))
    go_ret2
    exact ⟨by first | rfl | (simp [errW_none, errW_some] <;> rfl) | (simp [*, errW_none, errW_some] <;> rfl), by repeat (first | (with_reducible first | exact HB.out | apply below_alloc | apply pw_below_drewN | apply below_drew1 | refine below_set ?_ GE155.out) | exact HB.out)⟩

/-! ### table_Takes: function 23 -/
def table_Takes.f (k : Nat) (a0_0 : Int) (a0_1 : Int) (a0_2 : Int) (l0_3 : List (S27)) (l1 : List Int) : Option (Bool × Int) := (table_Names.f k a0_0 a0_1 a0_2 l0_3 l1).bind fun bt163 => (some (((Go.bits .and .u32 (shr .u32 bt163.1 (mx a0_2 0)) 1) == 1), bt163.2))
theorem table_Takes.mono : ∀ a0 a1 a2 a3 a4 k, LeO (table_Takes.f k a0 a1 a2 a3 a4) (table_Takes.f (k + 1) a0 a1 a2 a3 a4) := by
  intro a0 a1 a2 a3 a4 k
  unfold table_Takes.f
  repeat' first
      | (with_reducible exact table_Names.mono _ _ _ _ _ _)
      | (with_reducible exact LeO.refl _)
      | (with_reducible exact LeO.none _)
      | (with_reducible refine LeO.ite ?_ ?_)
      | (with_reducible refine LeO.bind ?_ (fun _ => ?_))
      | exact table_Names.mono _ _ _ _ _ _
      | exact LeO.none _
      | refine LeO.ite ?_ ?_
      | refine LeO.bind ?_ (fun _ => ?_)
set_option maxHeartbeats 8000000 in
set_option maxRecDepth 100000 in
theorem table_Takes.calls (k : Nat) (a0_0 : Int) (a0_1 : Int) (a0_2 : Int) (A0_3 : Option Addr) (c0_3 : Nat) (l0_3 : List (S27)) (A1 : Option Addr) (c1 : Nat) (l1 : List Int) (r1 : Bool) (r2 : Int) (w : World) (hr0_3 : Kd.C k27 w A0_3 l0_3.length l0_3) (hc0_3 : l0_3.length ≤ c0_3) (hr1 : Kd.C (Kd.int .i64) w A1 l1.length l1) (hc1 : l1.length ≤ c1) (h : table_Takes.f k a0_0 a0_1 a0_2 l0_3 l1 = some (r1, r2)) :
    Calls Try.prog 23 #[.agg #[.int .i64 a0_0, .int .i64 a0_1, .int .i64 a0_2, .slice A0_3 l0_3.length c0_3], .slice A1 l1.length c1] w fun e w' => e = .returned (.tuple #[.bool r1, .int .i64 r2]) ∧ Below w.heap.size w w' := by
  have hu24 := Try.underlying24
  have HR0_3 := Aside0.mk hr0_3
  have HC0_3 := Aside0.mk hc0_3
  clear hr0_3 hc0_3
  have HR1 := Aside0.mk hr1
  have HC1 := Aside0.mk hc1
  clear hr1 hc1
  have HB := Aside0.mk (Below.refl w.heap.size w)
  have H : ((table_Names.f k a0_0 a0_1 a0_2 l0_3 l1).bind fun bt163 => (some (((Go.bits .and .u32 (shr .u32 bt163.1 (mx a0_2 0)) 1) == 1), bt163.2))) = some (r1, r2) := h
  clear h
  replace H := Option.bind_eq_some_iff.mp H
  obtain ⟨⟨t163, t164⟩, A30, H⟩ := H
  replace H : (some (((Go.bits .and .u32 (shr .u32 t163 (mx a0_2 0)) 1) == 1), t164)) = some (r1, r2) := H
  have A3 := Aside0.mk A30
  clear A30
  obtain ⟨ji4, hji4⟩ : ∃ j_ : Int, (mx a0_2 0) = j_ := ⟨_, rfl⟩
  replace H : (some (((Go.bits .and .u32 (shr .u32 t163 (ji4)) 1) == 1), t164)) = some (r1, r2) := by first | (rw [hji4] at H; exact H) | (simp only [hji4] at H ⊢; exact H)
  (try rw [hji4] at A3)
  (try (have hji4l : 0 ≤ ji4 := by (rw [← hji4]; unfold mx; (repeat' split) <;> omega)))
  (try (have hji4m : 0 ≤ ji4 := by omega))
  have hji4_ : (if a0_2 < 0 then 0 else a0_2) = ji4 := hji4
  obtain ⟨ji5, hji5⟩ : ∃ j_ : Int, (shr .u32 t163 (ji4)) = j_ := ⟨_, rfl⟩
  replace H : (some (((Go.bits .and .u32 (ji5) 1) == 1), t164)) = some (r1, r2) := by first | (rw [hji5] at H; exact H) | (simp only [hji5] at H ⊢; exact H)
  (try rw [hji5] at A3)
  have hji5_ : (t163 / 2 ^ min (ji4).toNat 32) = ji5 := hji5
  have hji5z : (ji4) ≤ 32 → (t163 / 2 ^ (ji4).toNat) = ji5 := shr_small hji5
  simp only [Option.some.injEq, Prod.mk.injEq] at H
  obtain ⟨rfl, rfl⟩ := H
  go_enter Try.func23, Try.ntmps23
  go_wp2_with (first | ((with_reducible refine gate_dst (N := 2) rfl ?_); refine box_event ?hg (N := 2) ?hd (cs := #[.int .i64 a0_0, .int .i64 a0_1, .int .i64 a0_2, .slice A0_3 l0_3.length c0_3]) (t := 24) ?hr ?_; (case hd => rfl); (case hg => rfl); (case hr => first | (go_simp; done) | (go_simp; rfl)); intro gb162 hg w6 hbox hb; have n0_ := Aside0.mk (below_step (by repeat (first | (with_reducible first | exact HB.out | apply below_alloc | apply pw_below_drewN | apply below_drew1) | exact HB.out)) hb); have n1_ := Aside0.mk (hbox); have n2_ := Aside0.mk ((by rw [hg]; exact (below_size (by repeat (first | (with_reducible first | exact HB.out | apply below_alloc | apply pw_below_drewN | apply below_drew1) | exact HB.out))) : w.heap.size ≤ gb162)); have n3_ := Aside0.mk ((by rw [hg]; exact (below_size (by repeat (first | (with_reducible first | exact HB.out | apply below_alloc | apply pw_below_drewN | apply below_drew1) | exact HB.out))) : w.heap.size ≤ gb162)); clear HB; have HB := n0_; have BK162 := n1_; have GW162 := n2_; have GE162 := n3_; clear n0_ n1_ n2_ n3_; clear hb hbox hg; have hcz7_0 : w6.cell? ⟨gb162, 0, none⟩ = some (.int .i64 a0_0) := (blk_cell BK162.out 0).trans rfl; have hcz7_1 : w6.cell? ⟨gb162, 1, none⟩ = some (.int .i64 a0_1) := (blk_cell BK162.out 1).trans rfl; have hcz7_2 : w6.cell? ⟨gb162, 2, none⟩ = some (.int .i64 a0_2) := (blk_cell BK162.out 2).trans rfl; have hcz7_3 : w6.cell? ⟨gb162, 3, none⟩ = some (.slice A0_3 l0_3.length c0_3) := (blk_cell BK162.out 3).trans rfl; have hfz7_0 := blk_frozen BK162.out 0; have hfz7_1 := blk_frozen BK162.out 1; have hfz7_2 := blk_frozen BK162.out 2; have hfz7_3 := blk_frozen BK162.out 3) | ((with_reducible refine gate_callee (f := 20) rfl ?_); refine goesL_ (some 11) rfl rfl Try.func20 (by kernel_rfl) rfl #[.agg #[.int .i64 a0_0, .int .i64 a0_1, .int .i64 a0_2, .slice A0_3 l0_3.length c0_3], .slice A1 l1.length c1] rfl (by (try simp only [List.map_toArray, List.map_cons, List.map_nil]); first | done | rfl | (simp only [List.length_drop, List.length_take]; rfl)) ?_; (with_reducible refine (table_Names.calls k a0_0 a0_1 a0_2 _ _ l0_3 _ _ l1 t163 t164 _ ?side1 ?side2 ?side3 ?side4 A3.out).mono ?_); (case side1 => repeat (first | exact (Kd.C_below HR0_3.out HB.out) | (with_reducible refine Kd.C_alloc ?_ _) | (with_reducible refine Kd.C_drewN ?_ _) | (with_reducible refine Kd.C_drew ?_))); (case side2 => exact HC0_3.out); (case side3 => repeat (first | exact (Kd.C_below HR1.out HB.out) | (with_reducible refine Kd.C_alloc ?_ _) | (with_reducible refine Kd.C_drewN ?_ _) | (with_reducible refine Kd.C_drew ?_))); (case side4 => exact HC1.out); rintro e w8 ⟨rfl, hb⟩; refine ⟨_, rfl, ?_⟩; have n0_ := Aside0.mk (blk_below (g := gb162) (o := .cells #[.int .i64 a0_0, .int .i64 a0_1, .int .i64 a0_2, .slice A0_3 l0_3.length c0_3] 24 (0, 0)) (by (with_reducible repeat (first | refine blk_drewN ?_ _ | refine blk_drew ?_ | refine blk_alloc ?_ _)); exact BK162.out) hb); have n1_ := Aside0.mk (below_step (by repeat (first | (with_reducible first | exact HB.out | apply below_alloc | apply pw_below_drewN | apply below_drew1 | refine below_set ?_ GE162.out) | exact HB.out)) hb); clear BK162; clear HB; have BK162 := n0_; have HB := n1_; clear n0_ n1_; (try clear hb); (try clear hb2); (try clear hk); (try clear hi); have hcz9_0 : w8.cell? ⟨gb162, 0, none⟩ = some (.int .i64 a0_0) := (blk_cell BK162.out 0).trans rfl; have hcz9_1 : w8.cell? ⟨gb162, 1, none⟩ = some (.int .i64 a0_1) := (blk_cell BK162.out 1).trans rfl; have hcz9_2 : w8.cell? ⟨gb162, 2, none⟩ = some (.int .i64 a0_2) := (blk_cell BK162.out 2).trans rfl; have hcz9_3 : w8.cell? ⟨gb162, 3, none⟩ = some (.slice A0_3 l0_3.length c0_3) := (blk_cell BK162.out 3).trans rfl; have hfz9_0 := blk_frozen BK162.out 0; have hfz9_1 := blk_frozen BK162.out 1; have hfz9_2 := blk_frozen BK162.out 2; have hfz9_3 := blk_frozen BK162.out 3))
  go_ret2
  exact ⟨by first | rfl | (simp [errW_none, errW_some] <;> rfl) | (simp only [← hji4, ← hji5]; first | rfl | (simp [errW_none, errW_some] <;> rfl)) | (simp [*, errW_none, errW_some] <;> rfl), by repeat (first | (with_reducible first | exact HB.out | apply below_alloc | apply pw_below_drewN | apply below_drew1 | refine below_set ?_ GE162.out) | exact HB.out)⟩

-- NOT PRINTED: function 82 (slices_Grow_int_int)

/-! ### slices_Concat_int_int: function 47 -/
def slices_Concat_int_int.f (l0 : List (List Int)) : Option (List Int) := if l0.length < 1000000 ∧ l0.flatten.length < 1000000000 then some l0.flatten else none
theorem slices_Concat_int_int.info : (Try.prog.info? 3).map (fun i => (i.zero, i.size, i.bytes)) = some (some (.int .i64 0), 1, 8) := by kernel_rfl
set_option maxHeartbeats 1000000 in
theorem slices_Concat_int_int.grow (n : Nat) (w : World) (hn : n * 8 ≤ 140737488355328) :
    Calls Try.prog 82 #[.slice none 0 0, .int .i64 n] w fun e w' => ∃ v : Value, e = .returned v ∧ Kd.R (Kd.int .i64) 3 w' w.heap.size (fun _ => True) v [] ∧ Below w.heap.size w w' := by
  have HB := Aside0.mk (Below.refl w.heap.size w)
  have e0 : ((n : Int) < 0) = False := eq_false (by omega)
  rcases Nat.eq_zero_or_pos n with rfl | hp
  · go_enter Try.func82, Try.ntmps82
    go_wp2
    go_ret
    exact ⟨_, rfl, Kd.R_nil _ _ _ _ _, by repeat (first | exact HB.out | apply below_alloc | apply pw_below_drewN)⟩
  · have e1 : ((n : Int) > 0) = True := eq_true (by omega)
    have e2 : IntKind.i64.wrap ((n : Int) - IntKind.i64.wrap (0 - 0)) = (n : Int) := by rw [i64_w, i64_w]; unfold wrap64; omega
    have e3 : ((n : Int) - 0) = (n : Int) := Int.sub_zero _
    have e4 : IntKind.i64.wrap (n : Int) = (n : Int) := by rw [i64_w]; unfold wrap64; omega
    go_enter Try.func82, Try.ntmps82
    go_wp2_with ((with_reducible refine gate_builtin (b := .append) (xs := #[.tmp 20, .tmp 21]) rfl ?_); at_builtin; go_loud (refine Kd.R_append_zeros (Kd.int .i64) (w0 := w) w.heap.size rfl (.tmp 20) (.tmp 21) 25 3 3 (.int .i64 0) 8 rfl Try.underlying25 Try.underlying3 slices_Concat_int_int.info rfl (by decide) (by omega) _ [] (0) (n : Int) (fun _ => True) rfl rfl ?zz (fun _ _ => trivial) (Kd.R_nil _ _ _ _ _) (by omega) ?zB ?zS (by simp; omega) ?_); (case zz => exact rfl); (case zB => repeat (first | exact HB.out | apply below_alloc | apply pw_below_drewN)); (case zS => exact (below_size (by repeat (first | exact HB.out | apply below_alloc | apply pw_below_drewN)))); intro v1 w1 h1 hb hg hat; obtain ⟨A1, d1, rfl, hd1, hr1⟩ := Kd.R_reads h1; have H1 := Aside0.mk h1; have HB1 := Aside0.mk hb; obtain ⟨ad1, rfl, _⟩ := hr1.2.2 (by simp; omega); clear h1 hb hg hat hr1)
    go_ret
    exact ⟨_, rfl, by have := Kd.R_take (m := 0) H1.out (by simp); simpa using this, by repeat (first | exact HB1.out | apply below_alloc | apply pw_below_drewN)⟩
set_option maxHeartbeats 8000000 in
set_option maxRecDepth 100000 in
theorem slices_Concat_int_int.calls (A0 : Option Addr) (c0 : Nat) (l0 : List (List Int)) (r : List Int) (w : World) (hr0 : Kd.C (Kd.slice 3 (Kd.int .i64)) w A0 l0.length l0) (hc0 : l0.length ≤ c0) (h : slices_Concat_int_int.f l0 = some r) :
    Calls Try.prog 47 #[.slice A0 l0.length c0] w fun e w' => ∃ v0_ : Value, e = .returned (v0_) ∧ Kd.R (Kd.int .i64) 3 w' w.heap.size (fun _ => True) v0_ r ∧ Below w.heap.size w w' := by
  unfold slices_Concat_int_int.f at h
  by_cases c : l0.length < 1000000 ∧ l0.flatten.length < 1000000000
  · rw [if_pos c] at h
    obtain rfl := Option.some.inj h
    obtain ⟨cA, cB⟩ := c
    clear h
    have HB := Aside0.mk (Below.refl w.heap.size w)
    have hcell : ∀ kk : Nat, kk < l0.length → ∃ ad A' c', A0 = some ad ∧ w.cell? (ad.add kk) = some (.slice A' (l0.getD kk []).length c') ∧ Kd.C (Kd.int .i64) w A' (l0.getD kk []).length (l0.getD kk []) := fun kk hkk => by
      obtain ⟨ad, cs, e, _, ⟨A', c', rfl, _, hC⟩, hcl⟩ := ReadsRow.get_ hr0 [] (kk : Int) (by omega) (by omega)
      have h2 := hcl 0 _ rfl
      rw [show (Kd.slice 3 (Kd.int .i64)).sz = 1 from rfl, Nat.mul_one, Nat.add_zero, Int.toNat_natCast] at h2
      exact ⟨ad, A', c', e, h2, hC⟩
    clear hr0 hc0
    obtain ⟨T, hT⟩ : ∃ T : Nat → List Int, ∀ kk, T kk = (l0.take kk).flatten := ⟨_, fun _ => rfl⟩
    obtain ⟨E, hE⟩ : ∃ E : Nat → List Int, ∀ kk, E kk = l0.getD kk [] := ⟨_, fun _ => rfl⟩
    obtain ⟨S, hS⟩ : ∃ S : Nat → Nat, ∀ kk, S kk = (T kk).length := ⟨_, fun _ => rfl⟩
    have hT0 : Aside0 (T 0 = []) := ⟨by rw [hT]; rfl⟩
    have hTl : Aside0 (T l0.length = l0.flatten) := ⟨by rw [hT, List.take_length]⟩
    have hTs : Aside0 (∀ kk, kk < l0.length → T (kk + 1) = T kk ++ E kk) := ⟨fun kk hkk => by
      rw [hT, hT, hE, List.take_succ_eq_append_getElem hkk, List.flatten_append, List.flatten_singleton, List.getD_eq_getElem?_getD, List.getElem?_eq_getElem hkk, Option.getD_some]⟩
    have hSb : Aside0 (∀ kk, S kk < 1000000000) := ⟨fun kk => by
      have := congrArg List.length (congrArg List.flatten (List.take_append_drop kk l0))
      rw [List.flatten_append, List.length_append] at this
      rw [hS, hT]
      omega⟩
    have hSl : Aside0 (∀ kk, S kk = (T kk).length) := ⟨hS⟩
    simp only [← hE] at hcell
    have HC0 := Aside0.mk hcell
    generalize l0.flatten = F at *
    generalize l0.length = n at *
    clear hcell hT hE hS cB
    have hS0 : S 0 = 0 := by rw [hSl.out, hT0.out]; rfl
    go_enter Try.func47, Try.ntmps47
    go_wp2
    go_loopg [3, 5, 11] n (fun gg s3 _ s11 wr => ∃ kk q : Nat, kk ≤ n ∧ n - kk ≤ gg ∧ s3 = .int .i64 (S kk : Nat) ∧ s11 = .int .i64 kk ∧ wr = w.drewN q)
    case atStart => exact ⟨0, 0, Nat.zero_le _, by omega, by rw [hS0]; rfl, rfl, rfl⟩
    case round =>
      clear hS0
      obtain ⟨kk, q, hkk, hg, rfl, rfl, rfl⟩ := hrel
      by_cases hlt : kk < n
      · have hltz : (kk : Int) < (n : Int) := by omega
        obtain ⟨ad, A', c', rfl, hc, _⟩ := HC0.out kk hlt
        have h3 := congrArg List.length (hTs.out kk hlt)
        rw [List.length_append, ← hSl.out, ← hSl.out] at h3
        have h4 := hSb.out (kk + 1)
        have h5 : ((S kk : Int) + ((E kk).length : Int)) = ((S (kk + 1) : Nat) : Int) := by omega
        have h6 : ¬ ((S (kk + 1) : Nat) : Int) < 0 := by omega
        have h7 : ((S (kk + 1) : Nat) : Int) ≤ 1000000000 := by omega
        obtain ⟨b, off, lab⟩ := ad
        clear h3 h4
        generalize hS1 : S (kk + 1) = S1 at *
        have HS1 := Aside0.mk hS1
        clear hS1
        generalize S kk = S0 at *
        generalize (E kk).length = S2 at *
        go_wp2
        go_roundg (n - (kk + 1))
        case measure => omega
        case rel => exact ⟨kk + 1, _, by omega, by omega, by rw [HS1.out], by go_num, rfl⟩
      · have hltz : ¬ (kk : Int) < (n : Int) := by omega
        obtain rfl : kk = n := by omega
        have h4 := hSb.out kk
        have hG := fun q => slices_Concat_int_int.grow (S kk) (w.drewN q) (by omega)
        go_wp2_with (go_at_call 82; refine (hG _).mono ?_; rintro e w5 ⟨v, rfl, hR, hb⟩; have HO := Aside0.mk (Kd.R_lower hR (below_size (pw_below_drewN HB.out _))); have HB5 := Aside0.mk ((pw_below_drewN HB.out _).trans (hb.mono (below_size (pw_below_drewN HB.out _)))); clear hR hb)
        clear hG h4
        go_loopg [6, 8, 27] kk (fun gg s6 _ s27 wr => ∃ k2 : Nat, k2 ≤ kk ∧ kk - k2 ≤ gg ∧ s27 = .int .i64 k2 ∧ Aside0 (Kd.R (Kd.int .i64) 3 wr w.heap.size (fun _ => True) s6 (T k2)) ∧ Aside0 (Below w.heap.size w wr))
        case atStart => exact ⟨0, Nat.zero_le _, by omega, rfl, ⟨by rw [hT0.out]; exact HO.out⟩, ⟨HB5.out⟩⟩
        case round =>
          clear HO HB5
          obtain ⟨k2, hkk, hg, rfl, HO, HBr⟩ := hrel
          by_cases hlt : k2 < kk
          · have hltz : (k2 : Int) < (kk : Int) := by omega
            obtain ⟨ad, A', c', rfl, hc0, hC⟩ := HC0.out k2 hlt
            have hc := pw_cell_below (HBr.out) hc0
            clear hc0
            have HC' := Aside0.mk hC
            have HS := Aside0.mk (hTs.out k2 hlt)
            have HL := Aside0.mk (by have h1 := hSb.out (k2 + 1); rw [hSl.out, hTs.out k2 hlt, List.length_append] at h1; exact h1 : (T k2).length + (E k2).length < 1000000000)
            obtain ⟨b, off, lab⟩ := ad
            clear hC
            generalize E k2 = Y2 at *
            go_wp2_with ((with_reducible refine gate_builtin (b := .append) (xs := #[.tmp 31, .tmp 32]) rfl ?_); at_builtin; refine Kd.R_append_rows (Kd.int .i64) (w0 := w) w.heap.size rfl (.tmp 31) (.tmp 32) 25 3 (.int .i64 0) 8 rfl Try.underlying25 slices_Concat_int_int.info rfl (by decide) (by omega) u6 (T k2) Y2 _ _ _ (fun _ => True) (fun _ => False) rfl rfl ?aO ?aR (fun _ _ h => h) (fun _ h => h.elim) ?aF ?aB ?aS ?aL ?_; (case aR => repeat (first | exact (Kd.C_below HC'.out HBr.out) | (with_reducible refine Kd.C_alloc ?_ _) | (with_reducible refine Kd.C_drewN ?_ _) | (with_reducible refine Kd.C_drew ?_))); (case aB => exact (by repeat (first | (with_reducible first | exact HBr.out | apply below_alloc | apply pw_below_drewN | apply below_drew1) | exact HBr.out))); (case aF => exact (fun _ _ => trivial)); (case aO => exact (by (with_reducible repeat (first | apply Kd.R_alloc | apply Kd.R_drewN | apply Kd.R_drew)); exact HO.out)); (case aS => exact (below_size (by repeat (first | (with_reducible first | exact HBr.out | apply below_alloc | apply pw_below_drewN | apply below_drew1) | exact HBr.out)))); (case aL => have := HL.out; omega); intro v2 w7 ho hb hg7 hat; have HO7 := Aside0.mk ho; have HB7 := Aside0.mk hb; clear ho hb hg7 hat)
            go_roundg (kk - (k2 + 1))
            case measure => omega
            case rel => exact ⟨k2 + 1, by omega, by omega, by go_num, ⟨by rw [HS.out]; exact HO7.out⟩, ⟨HB7.out⟩⟩
          · have hltz : ¬ (k2 : Int) < (kk : Int) := by omega
            obtain rfl : k2 = kk := by omega
            have HF := Aside0.mk (by have := HO.out; rw [hTl.out] at this; exact this : Kd.R (Kd.int .i64) 3 wr w.heap.size (fun _ => True) u6 F)
            go_wp2
            go_ret
            exact ⟨_, rfl, HF.out, HBr.out⟩
  · rw [if_neg c] at h
    exact absurd h (by simp)

end Go.Proofs.Ytnkackiocigdoaa.GD
