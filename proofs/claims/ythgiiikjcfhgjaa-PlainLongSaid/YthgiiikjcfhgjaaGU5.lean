-- Written by ext.py, a program of this session.
import Derived.Test.YthgiiikjcfhgjaaGU0
import Derived.Test.YthgiiikjcfhgjaaGU4
namespace Go.Proofs.Ythgiiikjcfhgjaa.GU
open Go.RowKit Go.Proofs.YthgiiikjcfhgjaaW.PrintWords Go.Proofs.YthgiiikjcfhgjaaW.PrintLast Go.Proofs.YthgiiikjcfhgjaaW.PrintMore
attribute [local go_sem] max2_int min2_int max_two min_two max_three min_three max_four min_four cellIs_set   -- for this text's walks alone
set_option linter.unusedVariables false
set_option linter.unusedSimpArgs false

/-! ### table_fill: function 112 -/
mutual
def table_fill.l0 : Nat → List Int → List (List Int) → Int → Int → Int → Int → Int → List (S126) → Option ((List (List Int)))
  | 0, _, _, _, _, _, _, _, _ => none
  | k + 1, x1, x5, x16, x17, x117000, x117001, x117002, x117003 => if x17 < x16 then (if 0 ≤ (wrap64 ((x1.length : Int) + 1)) then (if (wrap64 ((x1.length : Int) + 1) : Int).toNat ≤ 70368744177664 then (if 0 ≤ x17 then (if x17 < (x5.length : Int) then (table_fill.l0 k x1 (x5.set (x17 : Int).toNat (List.replicate (wrap64 ((x1.length : Int) + 1) : Int).toNat 0)) x16 (wrap64 (x17 + 1)) x117000 x117001 x117002 x117003) else (none)) else (none)) else (none)) else (none)) else (table_fill.l1 k x1 x5 true x117000 x117001 x117002 x117003)
def table_fill.l1 : Nat → List Int → List (List Int) → Bool → Int → Int → Int → List (S126) → Option ((List (List Int)))
  | 0, _, _, _, _, _, _, _ => none
  | k + 1, x1, x5, x7, x117000, x117001, x117002, x117003 => if x7 = true then (table_fill.l2 k x1 x5 false x117003 (x117003.length : Int) 0 x117000 x117001 x117002 x117003) else (some x5)
def table_fill.l2 : Nat → List Int → List (List Int) → Bool → List (S126) → Int → Int → Int → Int → Int → List (S126) → Option ((List (List Int)))
  | 0, _, _, _, _, _, _, _, _, _, _ => none
  | k + 1, x1, x5, x7, x30, x31, x32, x117000, x117001, x117002, x117003 => if x32 < x31 then (if 0 ≤ x32 then (if x32 < (x30.length : Int) then (table_fill.l3 k x1 x5 x7 x30 x31 x32 (wrap64 ((x1.length : Int) + 1)) 0 x117000 x117001 x117002 x117003 ((rd_T126 x30 x32).f0) ((rd_T126 x30 x32).f1)) else (none)) else (none)) else (table_fill.l1 k x1 x5 x7 x117000 x117001 x117002 x117003)
def table_fill.l3 : Nat → List Int → List (List Int) → Bool → List (S126) → Int → Int → Int → Int → Int → Int → Int → List (S126) → Int → List Int → Option ((List (List Int)))
  | 0, _, _, _, _, _, _, _, _, _, _, _, _, _, _ => none
  | k + 1, x1, x5, x7, x30, x31, x32, x38, x39, x117000, x117001, x117002, x117003, x126000, x126001 => if x39 < x38 then (if 0 ≤ x39 then ((table_spans_ends.f k x5 x117000 x117001 x117002 x117003 x1 x126001 (shl .u32 1 x39)).bind fun t126 => (if x7 = true then (if 0 ≤ x126000 then (if x126000 < (x5.length : Int) then (if x39 < ((rd_L4 x5 x126000).length : Int) then (table_fill.l3 k x1 (x5.set (x126000 : Int).toNat ((rd_L4 x5 x126000).set (x39 : Int).toNat (Go.bits .or .u32 (rd (rd_L4 x5 x126000) x39) t126))) true x30 x31 x32 x38 (wrap64 (x39 + 1)) x117000 x117001 x117002 x117003 x126000 x126001) else (none)) else (none)) else (none)) else (if 0 ≤ x126000 then (if x126000 < (x5.length : Int) then (if x39 < ((rd_L4 x5 x126000).length : Int) then (table_fill.l3 k x1 (x5.set (x126000 : Int).toNat ((rd_L4 x5 x126000).set (x39 : Int).toNat (Go.bits .or .u32 (rd (rd_L4 x5 x126000) x39) t126))) ((Go.bits .andNot .u32 t126 (rd (rd_L4 x5 x126000) x39)) != 0) x30 x31 x32 x38 (wrap64 (x39 + 1)) x117000 x117001 x117002 x117003 x126000 x126001) else (none)) else (none)) else (none)))) else (none)) else (table_fill.l2 k x1 x5 x7 x30 x31 (wrap64 (x32 + 1)) x117000 x117001 x117002 x117003)
end
def table_fill.f (k : Nat) (a0_0 : Int) (a0_1 : Int) (a0_2 : Int) (l0_3 : List (S126)) (l1 : List Int) : Option ((List (List Int))) := if 0 ≤ a0_1 then (if (a0_1 : Int).toNat ≤ 11728124029610 then ((some (List.replicate (a0_1 : Int).toNat [] : List (List Int))).bind fun y117 => (table_fill.l0 k l1 y117 (y117.length : Int) 0 a0_0 a0_1 a0_2 l0_3)) else (none)) else (none)
theorem table_fill.mono_l : ∀ k, (∀ y0 y1 y2 y3 y4 y5 y6 y7, LeO (table_fill.l0 k y0 y1 y2 y3 y4 y5 y6 y7) (table_fill.l0 (k + 1) y0 y1 y2 y3 y4 y5 y6 y7)) ∧ (∀ y0 y1 y2 y3 y4 y5 y6, LeO (table_fill.l1 k y0 y1 y2 y3 y4 y5 y6) (table_fill.l1 (k + 1) y0 y1 y2 y3 y4 y5 y6)) ∧ (∀ y0 y1 y2 y3 y4 y5 y6 y7 y8 y9, LeO (table_fill.l2 k y0 y1 y2 y3 y4 y5 y6 y7 y8 y9) (table_fill.l2 (k + 1) y0 y1 y2 y3 y4 y5 y6 y7 y8 y9)) ∧ (∀ y0 y1 y2 y3 y4 y5 y6 y7 y8 y9 y10 y11 y12 y13, LeO (table_fill.l3 k y0 y1 y2 y3 y4 y5 y6 y7 y8 y9 y10 y11 y12 y13) (table_fill.l3 (k + 1) y0 y1 y2 y3 y4 y5 y6 y7 y8 y9 y10 y11 y12 y13))
  | 0 => ⟨fun _ _ _ _ _ _ _ _ r h => by simp [table_fill.l0] at h, fun _ _ _ _ _ _ _ r h => by simp [table_fill.l1] at h, fun _ _ _ _ _ _ _ _ _ _ r h => by simp [table_fill.l2] at h, fun _ _ _ _ _ _ _ _ _ _ _ _ _ _ r h => by simp [table_fill.l3] at h⟩
  | k + 1 => by
    obtain ⟨ih0, ih1, ih2, ih3⟩ := table_fill.mono_l k
    refine ⟨?_, ?_, ?_, ?_⟩
    · intro y0 y1 y2 y3 y4 y5 y6 y7
      unfold table_fill.l0
      repeat' first
      | (with_reducible exact ih0 _ _ _ _ _ _ _ _)
      | (with_reducible exact ih1 _ _ _ _ _ _ _)
      | (with_reducible exact ih2 _ _ _ _ _ _ _ _ _ _)
      | (with_reducible exact ih3 _ _ _ _ _ _ _ _ _ _ _ _ _ _)
      | (with_reducible exact table_spans_ends.mono _ _ _ _ _ _ _ _ _)
      | (with_reducible exact LeO.refl _)
      | (with_reducible exact LeO.none _)
      | (with_reducible refine LeO.ite ?_ ?_)
      | (with_reducible refine LeO.bind ?_ (fun _ => ?_))
      | exact ih0 _ _ _ _ _ _ _ _
      | exact ih1 _ _ _ _ _ _ _
      | exact ih2 _ _ _ _ _ _ _ _ _ _
      | exact ih3 _ _ _ _ _ _ _ _ _ _ _ _ _ _
      | exact table_spans_ends.mono _ _ _ _ _ _ _ _ _
      | exact LeO.none _
      | refine LeO.ite ?_ ?_
      | refine LeO.bind ?_ (fun _ => ?_)
    · intro y0 y1 y2 y3 y4 y5 y6
      unfold table_fill.l1
      repeat' first
      | (with_reducible exact ih0 _ _ _ _ _ _ _ _)
      | (with_reducible exact ih1 _ _ _ _ _ _ _)
      | (with_reducible exact ih2 _ _ _ _ _ _ _ _ _ _)
      | (with_reducible exact ih3 _ _ _ _ _ _ _ _ _ _ _ _ _ _)
      | (with_reducible exact table_spans_ends.mono _ _ _ _ _ _ _ _ _)
      | (with_reducible exact LeO.refl _)
      | (with_reducible exact LeO.none _)
      | (with_reducible refine LeO.ite ?_ ?_)
      | (with_reducible refine LeO.bind ?_ (fun _ => ?_))
      | exact ih0 _ _ _ _ _ _ _ _
      | exact ih1 _ _ _ _ _ _ _
      | exact ih2 _ _ _ _ _ _ _ _ _ _
      | exact ih3 _ _ _ _ _ _ _ _ _ _ _ _ _ _
      | exact table_spans_ends.mono _ _ _ _ _ _ _ _ _
      | exact LeO.none _
      | refine LeO.ite ?_ ?_
      | refine LeO.bind ?_ (fun _ => ?_)
    · intro y0 y1 y2 y3 y4 y5 y6 y7 y8 y9
      unfold table_fill.l2
      repeat' first
      | (with_reducible exact ih0 _ _ _ _ _ _ _ _)
      | (with_reducible exact ih1 _ _ _ _ _ _ _)
      | (with_reducible exact ih2 _ _ _ _ _ _ _ _ _ _)
      | (with_reducible exact ih3 _ _ _ _ _ _ _ _ _ _ _ _ _ _)
      | (with_reducible exact table_spans_ends.mono _ _ _ _ _ _ _ _ _)
      | (with_reducible exact LeO.refl _)
      | (with_reducible exact LeO.none _)
      | (with_reducible refine LeO.ite ?_ ?_)
      | (with_reducible refine LeO.bind ?_ (fun _ => ?_))
      | exact ih0 _ _ _ _ _ _ _ _
      | exact ih1 _ _ _ _ _ _ _
      | exact ih2 _ _ _ _ _ _ _ _ _ _
      | exact ih3 _ _ _ _ _ _ _ _ _ _ _ _ _ _
      | exact table_spans_ends.mono _ _ _ _ _ _ _ _ _
      | exact LeO.none _
      | refine LeO.ite ?_ ?_
      | refine LeO.bind ?_ (fun _ => ?_)
    · intro y0 y1 y2 y3 y4 y5 y6 y7 y8 y9 y10 y11 y12 y13
      unfold table_fill.l3
      repeat' first
      | (with_reducible exact ih0 _ _ _ _ _ _ _ _)
      | (with_reducible exact ih1 _ _ _ _ _ _ _)
      | (with_reducible exact ih2 _ _ _ _ _ _ _ _ _ _)
      | (with_reducible exact ih3 _ _ _ _ _ _ _ _ _ _ _ _ _ _)
      | (with_reducible exact table_spans_ends.mono _ _ _ _ _ _ _ _ _)
      | (with_reducible exact LeO.refl _)
      | (with_reducible exact LeO.none _)
      | (with_reducible refine LeO.ite ?_ ?_)
      | (with_reducible refine LeO.bind ?_ (fun _ => ?_))
      | exact ih0 _ _ _ _ _ _ _ _
      | exact ih1 _ _ _ _ _ _ _
      | exact ih2 _ _ _ _ _ _ _ _ _ _
      | exact ih3 _ _ _ _ _ _ _ _ _ _ _ _ _ _
      | exact table_spans_ends.mono _ _ _ _ _ _ _ _ _
      | exact LeO.none _
      | refine LeO.ite ?_ ?_
      | refine LeO.bind ?_ (fun _ => ?_)
theorem table_fill.mono : ∀ a0 a1 a2 a3 a4 k, LeO (table_fill.f k a0 a1 a2 a3 a4) (table_fill.f (k + 1) a0 a1 a2 a3 a4) := by
  intro a0 a1 a2 a3 a4 k
  obtain ⟨ih0, ih1, ih2, ih3⟩ := table_fill.mono_l k
  unfold table_fill.f
  repeat' first
      | (with_reducible exact ih0 _ _ _ _ _ _ _ _)
      | (with_reducible exact ih1 _ _ _ _ _ _ _)
      | (with_reducible exact ih2 _ _ _ _ _ _ _ _ _ _)
      | (with_reducible exact ih3 _ _ _ _ _ _ _ _ _ _ _ _ _ _)
      | (with_reducible exact table_spans_ends.mono _ _ _ _ _ _ _ _ _)
      | (with_reducible exact LeO.refl _)
      | (with_reducible exact LeO.none _)
      | (with_reducible refine LeO.ite ?_ ?_)
      | (with_reducible refine LeO.bind ?_ (fun _ => ?_))
      | exact ih0 _ _ _ _ _ _ _ _
      | exact ih1 _ _ _ _ _ _ _
      | exact ih2 _ _ _ _ _ _ _ _ _ _
      | exact ih3 _ _ _ _ _ _ _ _ _ _ _ _ _ _
      | exact table_spans_ends.mono _ _ _ _ _ _ _ _ _
      | exact LeO.none _
      | refine LeO.ite ?_ ?_
      | refine LeO.bind ?_ (fun _ => ?_)
def table_fill.T16 : Bool × List (List Nat × List Nat) := (true, [([], []), ([], []), ([], []), ([], []), ([3], [3]), ([], []), ([5], [5]), ([0, 1, 2, 4, 6], [0, 1, 2, 4, 6]), ([7, 7, 0, 1, 2, 3, 4, 5, 6, 7], [7])])
def table_fill.B16 : List Nat := [0, 0, 0, 0, 8, 0, 32, 127, 255]
theorem table_fill.tab16 : rtab .any (opsOf Try.f112 16) = table_fill.T16 := by kernel_rfl
theorem table_fill.bits16 : waitsOk table_fill.T16.2 table_fill.B16 = true := by kernel_rfl
set_option maxHeartbeats 8000000 in
set_option maxRecDepth 100000 in
theorem table_fill.calls (k : Nat) (a0_0 : Int) (a0_1 : Int) (a0_2 : Int) (A0_3 : Option Addr) (c0_3 : Nat) (l0_3 : List (S126)) (A1 : Option Addr) (c1 : Nat) (l1 : List Int) (r : List (List Int)) (w : World) (hr0_3 : Kd.C k126 w A0_3 l0_3.length l0_3) (hc0_3 : l0_3.length ≤ c0_3) (hr1 : Kd.C (Kd.int .i64) w A1 l1.length l1) (hc1 : l1.length ≤ c1) (h : table_fill.f k a0_0 a0_1 a0_2 l0_3 l1 = some r) :
    Calls Try.prog 112 #[.agg #[.int .i64 a0_0, .int .i64 a0_1, .int .i64 a0_2, .slice A0_3 l0_3.length c0_3], .slice A1 l1.length c1] w fun e w' => ∃ v0_ : Value, e = .returned (v0_) ∧ Kd.S (Kd.slice 61 (Kd.int .u32)) 141 w' w.heap.size (fun _ => True) v0_ r ∧ Below w.heap.size w w' := by
  have hu51 := Try.underlying51
  have hu126 := Try.underlying126
  have HR0_3 := Aside0.mk hr0_3
  have HC0_3 := Aside0.mk hc0_3
  clear hr0_3 hc0_3
  have HR1 := Aside0.mk hr1
  have HC1 := Aside0.mk hc1
  clear hr1 hc1
  have HB := Aside0.mk (Below.refl w.heap.size w)
  have H : (if 0 ≤ a0_1 then (if (a0_1 : Int).toNat ≤ 11728124029610 then ((some (List.replicate (a0_1 : Int).toNat [] : List (List Int))).bind fun y117 => (table_fill.l0 k l1 y117 (y117.length : Int) 0 a0_0 a0_1 a0_2 l0_3)) else (none)) else (none)) = some r := h
  clear h
  by_cases c3 : 0 ≤ a0_1
  · rw [if_pos c3] at H
    have c3b0 := eq_true c3
    have c3b1 : decide (0 ≤ a0_1) = true := decide_eq_true c3
    clear c3
    by_cases c4 : (a0_1 : Int).toNat ≤ 11728124029610
    · rw [if_pos c4] at H
      have c4b0 := eq_true c4
      have c4b1 : decide ((a0_1 : Int).toNat ≤ 11728124029610) = true := decide_eq_true c4
      clear c4
      obtain ⟨y117, hy117⟩ : ∃ y_ : List (List Int), y_ = (List.replicate (a0_1 : Int).toNat []) := ⟨_, rfl⟩
      replace H : (table_fill.l0 k l1 y117 (y117.length : Int) 0 a0_0 a0_1 a0_2 l0_3) = some r := by first | (rw [hy117]; with_reducible exact H) | (have H2_ := (Option.bind_some _ _).symm.trans H; rw [hy117]; with_reducible exact H2_) | (have H2_ := (Option.bind_some _ _).symm.trans H; with_reducible exact H2_) | with_reducible exact H | (rw [hy117]; exact H) | exact H
      have Ny117 := Aside0.mk hy117
      clear hy117
      have H' := Aside0.mk H
      clear H
      go_enter Try.func112, Try.ntmps112
      go_wp2_with (first | ((with_reducible refine gate_dst (N := 2) rfl ?_); refine box_event ?hg (N := 2) ?hd (cs := #[.int .i64 a0_0, .int .i64 a0_1, .int .i64 a0_2, .slice A0_3 l0_3.length c0_3]) (t := 51) ?hr ?_; (case hd => rfl); (case hg => rfl); (case hr => first | (go_simp; done) | (go_simp; rfl)); intro gb116 hg w5 hbox hb; have n0_ := Aside0.mk (below_step (by repeat (first | (with_reducible first | exact HB.out | apply below_alloc | apply pw_below_drewN | apply below_drew1) | exact HB.out)) hb); have n1_ := Aside0.mk (hbox); have n2_ := Aside0.mk ((by rw [hg]; exact (below_size (by repeat (first | (with_reducible first | exact HB.out | apply below_alloc | apply pw_below_drewN | apply below_drew1) | exact HB.out))) : w.heap.size ≤ gb116)); have n3_ := Aside0.mk ((by rw [hg]; exact (below_size (by repeat (first | (with_reducible first | exact HB.out | apply below_alloc | apply pw_below_drewN | apply below_drew1) | exact HB.out))) : w.heap.size ≤ gb116)); clear HB; have HB := n0_; have BK116 := n1_; have GW116 := n2_; have GE116 := n3_; clear n0_ n1_ n2_ n3_; clear hb hbox hg; have hcz6_0 : w5.cell? ⟨gb116, 0, none⟩ = some (.int .i64 a0_0) := (blk_cell BK116.out 0).trans rfl; have hcz6_1 : w5.cell? ⟨gb116, 1, none⟩ = some (.int .i64 a0_1) := (blk_cell BK116.out 1).trans rfl; have hcz6_2 : w5.cell? ⟨gb116, 2, none⟩ = some (.int .i64 a0_2) := (blk_cell BK116.out 2).trans rfl; have hcz6_3 : w5.cell? ⟨gb116, 3, none⟩ = some (.slice A0_3 l0_3.length c0_3) := (blk_cell BK116.out 3).trans rfl; have hfz6_0 := blk_frozen BK116.out 0; have hfz6_1 := blk_frozen BK116.out 1; have hfz6_2 := blk_frozen BK116.out 2; have hfz6_3 := blk_frozen BK116.out 3) | ((with_reducible refine gate_dst (N := 14) rfl ?_); refine Kd.S_make (Kd.slice 61 (Kd.int .u32)) _ 141 rfl (N := 14) rfl 175 _ _ rfl a0_1 rfl rfl Try.underlying175 (.slice none 0 0) 24 info141 rfl (by decide) (by omega) [] (ok := fun _ => True) (okp := fun _ => True) ⟨_, rfl, Kd.R_nil _ _ _ _ _⟩ (fun _ hk => hk) trivial (of_decide_eq_true (by first | (with_reducible assumption) | assumption)) (Nat.le_trans (Nat.mul_le_mul_right _ (of_decide_eq_true (by first | (with_reducible assumption) | assumption) : a0_1.toNat ≤ 11728124029610)) (by omega)) (Below.refl _ _) (Nat.le_refl _) ?_; intro v118 w7 ho8 hb hg_ hnew_; clear hg_ hnew_; (first | rw [← Ny117.out] at ho8 | (simp only [Int.reduceToNat] at ho8; rw [← Ny117.out] at ho8)); have n0_ := Aside0.mk (Kd.S_lower ho8 (below_size (by repeat (first | (with_reducible first | exact HB.out | apply below_alloc | apply pw_below_drewN | apply below_drew1 | refine below_set ?_ GE116.out) | exact HB.out)))); have n1_ := Aside0.mk (blk_below (g := gb116) (o := .cells #[.int .i64 a0_0, .int .i64 a0_1, .int .i64 a0_2, .slice A0_3 l0_3.length c0_3] 51 (0, 0)) (by (with_reducible repeat (first | refine blk_drewN ?_ _ | refine blk_drew ?_ | refine blk_alloc ?_ _)); exact BK116.out) hb); have n2_ := Aside0.mk (below_step (by repeat (first | (with_reducible first | exact HB.out | apply below_alloc | apply pw_below_drewN | apply below_drew1 | refine below_set ?_ GE116.out) | exact HB.out)) hb); clear BK116; clear HB; have HO119 := n0_; have BK116 := n1_; have HB := n2_; clear n0_ n1_ n2_; clear hb ho8; obtain ⟨Ao9, co9, eo9⟩ := Kd.S_slice HO119.out; subst eo9))
      go_loopg [17] k (fun kq v17 w' => ∃ (x5_1 : List (List Int)) (x17_1 : Int), v17 = .int .i64 x17_1 ∧ Aside0 (table_fill.l0 kq l1 x5_1 (y117.length : Int) x17_1 a0_0 a0_1 a0_2 l0_3 = some r) ∧ Aside0 (kq ≤ k) ∧ Aside0 (Kd.S (Kd.slice 61 (Kd.int .u32)) 141 w' w.heap.size (fun _ => True) (.slice Ao9 y117.length co9) x5_1) ∧ Aside0 (w'.heap[gb116]? = some (.cells #[.int .i64 a0_0, .int .i64 a0_1, .int .i64 a0_2, (.slice A0_3 l0_3.length c0_3)] 51 (0, 0))) ∧ Aside0 (Below w.heap.size w w'))
      case atStart => exact ⟨(y117), (0), (by first | rfl | (simp; done) | (simp [*]; done)), H', ⟨Nat.le_refl _⟩, ⟨by (with_reducible repeat (first | apply Kd.S_alloc | apply Kd.S_drewN | apply Kd.S_drew)); exact HO119.out⟩, ⟨by (with_reducible repeat (first | refine blk_drewN ?_ _ | refine blk_drew ?_ | refine blk_alloc ?_ _)); exact BK116.out⟩, ⟨by repeat (first | (with_reducible first | exact HB.out | apply below_alloc | apply pw_below_drewN | apply below_drew1 | refine below_set ?_ GE116.out) | exact HB.out)⟩⟩
      case round =>
        clear H'
        try clear c1
        try clear p2
        try clear c3
        try clear c3b0
        try clear c3b1
        try clear c4
        try clear c4b0
        try clear c4b1
        try clear hcz6_0
        try clear hcz6_1
        try clear hcz6_2
        try clear hcz6_3
        try clear hfz6_0
        try clear hfz6_1
        try clear hfz6_2
        try clear hfz6_3
        obtain ⟨x5_1, x17_1, rfl, HA, HK1, HO_5, BK116, HB⟩ := hrel
        have hl5_1 := (Kd.S_reads' HO_5.out).1
        rw [hl5_1] at HO_5
        (try simp only [hl5_1])
        (try simp only [hl5_1] at BK116)
        cases gk with
        | zero => exact absurd HA.out (by simp [table_fill.l0])
        | succ k1 =>
          have H := HA.out
          clear HA
          simp only [table_fill.l0] at H
          by_cases c10 : x17_1 < (y117.length : Int)
          · rw [if_pos c10] at H
            have c10b0 : decide (x17_1 < (y117.length : Int)) = true := decide_eq_true c10
            (try (have c10b0h := c10b0; simp only [hl5_1] at c10b0h))
            clear c10
            obtain ⟨ji11, hji11⟩ : ∃ j_ : Int, (wrap64 ((l1.length : Int) + 1)) = j_ := ⟨_, rfl⟩
            replace H : (if 0 ≤ (ji11) then (if (ji11 : Int).toNat ≤ 70368744177664 then (if 0 ≤ x17_1 then (if x17_1 < (x5_1.length : Int) then (table_fill.l0 k1 l1 (x5_1.set (x17_1 : Int).toNat (List.replicate (ji11 : Int).toNat 0)) (y117.length : Int) (wrap64 (x17_1 + 1)) a0_0 a0_1 a0_2 l0_3) else (none)) else (none)) else (none)) else (none)) = some r := by first | (rw [hji11] at H; exact H) | (simp only [hji11] at H ⊢; exact H)
            have hji11w : (IntKind.i64.wrap ((l1.length : Int) + 1)) = ji11 := (i64_w _).trans hji11
            by_cases c12 : 0 ≤ (ji11)
            · rw [if_pos c12] at H
              have c12b0 := eq_true c12
              have c12b1 : decide (0 ≤ (ji11)) = true := decide_eq_true c12
              clear c12
              by_cases c13 : (ji11 : Int).toNat ≤ 70368744177664
              · rw [if_pos c13] at H
                have c13b0 := eq_true c13
                have c13b1 : decide ((ji11 : Int).toNat ≤ 70368744177664) = true := decide_eq_true c13
                clear c13
                obtain ⟨y120, hy120⟩ : ∃ y_ : List Int, y_ = (List.replicate (ji11 : Int).toNat 0) := ⟨_, rfl⟩
                replace H : (if 0 ≤ x17_1 then (if x17_1 < (x5_1.length : Int) then (table_fill.l0 k1 l1 (x5_1.set (x17_1 : Int).toNat y120) (y117.length : Int) (wrap64 (x17_1 + 1)) a0_0 a0_1 a0_2 l0_3) else (none)) else (none)) = some r := by first | (rw [hy120]; with_reducible exact H) | (have H2_ := (Option.bind_some _ _).symm.trans H; rw [hy120]; with_reducible exact H2_) | (have H2_ := (Option.bind_some _ _).symm.trans H; with_reducible exact H2_) | with_reducible exact H | (rw [hy120]; exact H) | exact H
                have Ny120 := Aside0.mk hy120
                clear hy120
                by_cases c14 : 0 ≤ x17_1
                · rw [if_pos c14] at H
                  have c14b0 : decide (0 ≤ x17_1) = true := decide_eq_true c14
                  clear c14
                  by_cases c15 : x17_1 < (x5_1.length : Int)
                  · rw [if_pos c15] at H
                    have c15b0 : decide (x17_1 < (x5_1.length : Int)) = true := decide_eq_true c15
                    (try (have c15b0h := c15b0; simp only [hl5_1] at c15b0h))
                    clear c15
                    obtain ⟨y123, hy123⟩ : ∃ y_ : List (List Int), y_ = (x5_1.set (x17_1 : Int).toNat y120) := ⟨_, rfl⟩
                    replace H : (table_fill.l0 k1 l1 y123 (y117.length : Int) (wrap64 (x17_1 + 1)) a0_0 a0_1 a0_2 l0_3) = some r := by first | (rw [hy123]; with_reducible exact H) | (have H2_ := (Option.bind_some _ _).symm.trans H; rw [hy123]; with_reducible exact H2_) | (have H2_ := (Option.bind_some _ _).symm.trans H; with_reducible exact H2_) | with_reducible exact H | (rw [hy123]; exact H) | exact H
                    have Ny123 := Aside0.mk hy123
                    clear hy123
                    have H' := Aside0.mk H
                    clear H
                    go_wp2_with (first | ((with_reducible refine gate_dst (N := 25) rfl ?_); refine Kd.R_make (Kd.int .u32) _ 61 rfl (N := 25) rfl 141 _ _ rfl ji11 rfl rfl Try.underlying141 (.int .u32 0) 4 info61 rfl (by decide) (by omega) 0 (ok := fun _ => True) (okp := fun _ => True) rfl (fun _ hk => hk) trivial (of_decide_eq_true (by first | (with_reducible assumption) | assumption)) (Nat.le_trans (Nat.mul_le_mul_right _ (of_decide_eq_true (by first | (with_reducible assumption) | assumption) : ji11.toNat ≤ 70368744177664)) (by omega)) (Below.refl _ _) (Nat.le_refl _) ?_; intro v121 w17 ho18 hb hg_ hnew_; clear hg_ hnew_; (first | rw [← Ny120.out] at ho18 | (simp only [Int.reduceToNat] at ho18; rw [← Ny120.out] at ho18)); have n0_ := Aside0.mk (Kd.S_elder' (by (with_reducible repeat (first | apply Kd.S_alloc | apply Kd.S_drewN | apply Kd.S_drew)); exact HO_5.out) (Kd.R_base ho18) hb); have n1_ := Aside0.mk (Kd.R_lower ho18 (below_size (by repeat (first | (with_reducible first | exact HB.out | apply below_alloc | apply pw_below_drewN | apply below_drew1 | refine below_set ?_ GE116.out) | exact HB.out)))); have n2_ := Aside0.mk (blk_below (g := gb116) (o := .cells #[.int .i64 a0_0, .int .i64 a0_1, .int .i64 a0_2, .slice A0_3 l0_3.length c0_3] 51 (0, 0)) (by (with_reducible repeat (first | refine blk_drewN ?_ _ | refine blk_drew ?_ | refine blk_alloc ?_ _)); exact BK116.out) hb); have n3_ := Aside0.mk (below_step (by repeat (first | (with_reducible first | exact HB.out | apply below_alloc | apply pw_below_drewN | apply below_drew1 | refine below_set ?_ GE116.out) | exact HB.out)) hb); clear HO_5; clear BK116; clear HB; have HO_5 := n0_; have HO122 := n1_; have BK116 := n2_; have HB := n3_; clear n0_ n1_ n2_ n3_; clear hb ho18; have p16 : 0 ≤ (x17_1 : Int) := of_decide_eq_true (by first | (with_reducible assumption) | assumption); have q16 : (x17_1 : Int) < ((x5_1.length : Int) : Int) := of_decide_eq_true (by first | (with_reducible assumption) | assumption); obtain ⟨go16, co16, eo16, gb16, gl16, cl16, HG16⟩ := Kd.S_form HO_5.out (by omega); (first | cases eo16 | (injection eo16 with ea_ en_ ec_; (first | subst ea_ | (injection ea_ with ea_; subst ea_)); subst ec_; clear en_)); have GB16 := Aside0.mk gb16; have GG16 := Aside0.mk HG16; clear gb16 gl16 HG16; obtain ⟨_, ce16, hcl16, hM16, hcc16, hfr16, _, _⟩ := Kd.S_elem HO_5.out [] (x17_1 : Int) p16 q16; obtain ⟨ve16_0, rfl, ge16_0⟩ := id hM16; have hx16_0 := hcc16 0 _ rfl; have hf16_0 := hfr16 0; (try simp only [show ((Kd.slice 61 (Kd.int .u32))).sz = 1 from rfl, Nat.mul_one, Nat.add_zero] at hx16_0); (try simp only [show ((Kd.slice 61 (Kd.int .u32))).sz = 1 from rfl, Nat.mul_one, Nat.add_zero] at hf16_0); clear hcl16 hcc16 hfr16 hM16; replace p16 := eq_true p16; replace q16 := eq_true q16; obtain ⟨Ao19, co19, eo19⟩ := Kd.R_slice HO122.out; subst eo19; have n_ := Aside0.mk (Kd.S_mono (ok' := (fun k_ => some k_ ≠ (.slice Ao19 y120.length co19 : Value).ownBlock)) HO_5.out (fun k_ hk => hk.2)); clear HO_5; have HO_5 := n_; clear n_; have HX20 := Aside0.mk (show Kd.S (Kd.slice 61 (Kd.int .u32)) 141 w17 w.heap.size (fun k_ => ((fun _ => True)) k_ ∧ ¬ ((fun k_ => some k_ = (.slice Ao19 y120.length co19 : Value).ownBlock)) k_) (.slice (some ⟨go16, 0, none⟩) x5_1.length co9) x5_1 from (by (with_reducible repeat (first | apply Kd.S_alloc | apply Kd.S_drewN | apply Kd.S_drew)); exact Kd.S_mono HO_5.out (fun k_ hk => ⟨trivial, fun e_ => hk e_⟩))); obtain ⟨oki20, ce20, hcl20, hM20, hcc20, hfr20, hoki20, hH20⟩ := Kd.S_elem HX20.out [] (x17_1 : Int) (of_decide_eq_true (by first | (with_reducible assumption) | assumption)) (by have h_ : (x17_1 : Int) < ((x5_1.length : Int) : Int) := of_decide_eq_true (by first | (with_reducible assumption) | assumption); first | exact h_ | (have e_ := (Kd.S_reads' HO_5.out).1; omega) | simpa using h_); obtain ⟨ve20_0, rfl, ge20_0⟩ := id hM20; have HP20 := Kd.S_seg hH20 (of_decide_eq_true (by first | (with_reducible assumption) | assumption)) (by have h_ : (x17_1 : Int) < ((x5_1.length : Int) : Int) := of_decide_eq_true (by first | (with_reducible assumption) | assumption); first | exact h_ | (have e_ := (Kd.S_reads' HO_5.out).1; omega) | simpa using h_) (seg := [.slice Ao19 y120.length co19]) (j := 0) (show 1 ≤ 1 from by decide) (x' := y120) (Kd.M_row (Kd.R_mono (Kd.R_tight rfl (Kd.R_mono (ok' := fun k_ => ((fun _ => True)) k_ ∧ k_ ≠ go16) (Kd.R_apart' (HO122.out) (Kd.S_typed HO_5.out) (by decide)) (fun k_ hk => ⟨trivial, fun e_ => (hk.2) (by rw [e_]; rfl)⟩))) (fun _ h_ => Or.inr (h_)))) (fun _ hk => hk) (fun k_ hk_ => ((Kd.R_mono (ok' := fun k_ => ((fun _ => True)) k_ ∧ k_ ≠ go16) (Kd.R_apart' (HO122.out) (Kd.S_typed HO_5.out) (by decide)) (fun k_ hk => ⟨trivial, fun e_ => (hk.2) (by rw [e_]; rfl)⟩))).1 k_ hk_.symm); have hx20_0 := hcc20 0 _ rfl; (try simp only [show ((Kd.slice 61 (Kd.int .u32))).sz = 1 from rfl, Nat.mul_one, Nat.add_zero] at hx20_0); have hf20_0 := hfr20 0; (try simp only [show ((Kd.slice 61 (Kd.int .u32))).sz = 1 from rfl, Nat.mul_one, Nat.add_zero] at hf20_0); clear hcl20 hcc20 hfr20 hM20 hoki20 hH20; (try simp only [show ((Kd.slice 61 (Kd.int .u32))).sz = 1 from rfl, Nat.mul_one, Nat.add_zero] at HP20)) | ((with_reducible refine gate_store (t := 141) (p := 26) rfl ?_); refine store_event (t := 141) (p := 26) (v := ?vo_w21) (w1 := (w17.setCell ⟨go16, (x17_1 : Int).toNat, none⟩ (.slice Ao19 y120.length co19))) ?hg ?ho ?hn ?hr ?_; (case ho => rfl); (case hg => rfl); (case hn => rfl); (case hr => first | (go_simp; done) | (go_simp; rfl)); intro w21 hw; have hg : w17.grownBy w21 (some go16) := (by rw [hw]; exact HP20.2); have hp_ : Kd.S (Kd.slice 61 (Kd.int .u32)) 141 w21 w.heap.size (fun _ => True) (.slice (some ⟨go16, 0, none⟩) x5_1.length co9) y123 := (by rw [hw, Ny123.out]; exact HP20.1); clear HP20; have n0_ := Aside0.mk (hp_); have n1_ := Aside0.mk (blk_grown (g := gb116) (o := .cells #[.int .i64 a0_0, .int .i64 a0_1, .int .i64 a0_2, .slice A0_3 l0_3.length c0_3] 51 (0, 0)) (by (with_reducible repeat (first | refine blk_drewN ?_ _ | refine blk_drew ?_ | refine blk_alloc ?_ _)); exact BK116.out) hg (Kd.S_ne HO_5.out BK116.out (by decide))); have n2_ := Aside0.mk ((by rw [hw]; exact below_set (HB.out) GB16.out : Below w.heap.size w w21)); clear HO_5; clear BK116; clear HB; clear HO122; have HO_5 := n0_; have BK116 := n1_; have HB := n2_; clear n0_ n1_ n2_; clear hg hw hp_))
                    (try simp only [← hl5_1])
                    first | go_roundg k1 | ((simp only [← hji11]); go_roundg k1)
                    case measure => have := HK1.out; omega
                    case rel => exact ⟨(y123), (wrap64 (x17_1 + 1)), (by first | rfl | (simp; done) | (simp [*]; done)), (by first | exact H' | ((simp only [hji11]); exact H') | (have h_ := H'.out; simp only [← hji11] at h_ ⊢; exact ⟨h_⟩)), ⟨by have := HK1.out; omega⟩, ⟨by (try simp only [hl5_1]); (with_reducible repeat (first | apply Kd.S_alloc | apply Kd.S_drewN | apply Kd.S_drew)); exact HO_5.out⟩, ⟨by (try simp only [hl5_1]); (with_reducible repeat (first | refine blk_drewN ?_ _ | refine blk_drew ?_ | refine blk_alloc ?_ _)); (first | exact BK116.out | (have h_ := BK116.out; simp only [← hji11] at h_; exact h_))⟩, ⟨by repeat (first | (with_reducible first | exact HB.out | apply below_alloc | apply pw_below_drewN | apply below_drew1 | refine below_set ?_ GE116.out) | exact HB.out)⟩⟩
                  · rw [if_neg c15] at H
                    exact absurd H (by simp)
                · rw [if_neg c14] at H
                  exact absurd H (by simp)
              · rw [if_neg c13] at H
                exact absurd H (by simp)
            · rw [if_neg c12] at H
              exact absurd H (by simp)
          · rw [if_neg c10] at H
            have c10b0 : decide (x17_1 < (y117.length : Int)) = false := decide_eq_false c10
            (try (have c10b0h := c10b0; simp only [hl5_1] at c10b0h))
            clear c10
            have H' := Aside0.mk H
            clear H
            go_wp2
            go_loopg [7] k1 (fun kq v7 w' => ∃ (x5_2 : List (List Int)) (x7_2 : Bool), v7 = .bool x7_2 ∧ Aside0 (table_fill.l1 kq l1 x5_2 x7_2 a0_0 a0_1 a0_2 l0_3 = some r) ∧ Aside0 (kq ≤ k1) ∧ Aside0 (Kd.S (Kd.slice 61 (Kd.int .u32)) 141 w' w.heap.size (fun _ => True) (.slice Ao9 x5_1.length co9) x5_2) ∧ Aside0 (w'.heap[gb116]? = some (.cells #[.int .i64 a0_0, .int .i64 a0_1, .int .i64 a0_2, (.slice A0_3 l0_3.length c0_3)] 51 (0, 0))) ∧ Aside0 (Below w.heap.size w w'))
            case atStart => exact ⟨(x5_1), (true), (by first | rfl | (simp; done) | (simp [*]; done)), H', ⟨Nat.le_refl _⟩, ⟨by (try simp only [hl5_1]); (with_reducible repeat (first | apply Kd.S_alloc | apply Kd.S_drewN | apply Kd.S_drew)); exact HO_5.out⟩, ⟨by (try simp only [hl5_1]); (with_reducible repeat (first | refine blk_drewN ?_ _ | refine blk_drew ?_ | refine blk_alloc ?_ _)); exact BK116.out⟩, ⟨by repeat (first | (with_reducible first | exact HB.out | apply below_alloc | apply pw_below_drewN | apply below_drew1 | refine below_set ?_ GE116.out) | exact HB.out)⟩⟩
            case round =>
              clear H'
              try clear c1
              try clear p1
              try clear q1
              try clear hx1
              try clear c2
              try clear p2
              try clear hx2
              try clear hf2
              try clear c3
              try clear c3b0
              try clear c3b1
              try clear c4
              try clear c4b0
              try clear c4b1
              try clear p6
              try clear c10
              try clear c10b0
              try clear c11
              try clear c12
              try clear c12b0
              try clear c12b1
              try clear c13
              try clear c13b0
              try clear c13b1
              try clear c14
              try clear c14b0
              try clear c15
              try clear c15b0
              try clear c16
              try clear p16
              try clear q16
              try clear hx16
              try clear hf16
              try clear c20
              try clear hx20
              try clear hf20
              try clear hcz6_0
              try clear hcz6_1
              try clear hcz6_2
              try clear hcz6_3
              try clear hfz6_0
              try clear hfz6_1
              try clear hfz6_2
              try clear hfz6_3
              try clear hx16_0
              try clear hx20_0
              try clear p16
              try clear p2
              try clear q16
              obtain ⟨x5_2, x7_2, rfl, HA, HK2, HO_5, BK116, HB⟩ := hrel
              have hl5_2 := (Kd.S_reads' HO_5.out).1
              rw [hl5_2] at HO_5
              (try simp only [hl5_2])
              (try simp only [hl5_2] at BK116)
              cases gk with
              | zero => exact absurd HA.out (by simp [table_fill.l1])
              | succ k2 =>
                have H := HA.out
                clear HA
                simp only [table_fill.l1] at H
                by_cases c22 : x7_2 = true
                · subst c22
                  have H1 : (table_fill.l2 k2 l1 x5_2 false l0_3 (l0_3.length : Int) 0 a0_0 a0_1 a0_2 l0_3) = some r := by rw [if_pos rfl] at H; exact H
                  clear H
                  have H := H1
                  clear H1
                  have H' := Aside0.mk H
                  clear H
                  have hcz23_0 : wr.cell? ⟨gb116, 0, none⟩ = some (.int .i64 a0_0) := (blk_cell BK116.out 0).trans rfl
                  have hcz23_1 : wr.cell? ⟨gb116, 1, none⟩ = some (.int .i64 a0_1) := (blk_cell BK116.out 1).trans rfl
                  have hcz23_2 : wr.cell? ⟨gb116, 2, none⟩ = some (.int .i64 a0_2) := (blk_cell BK116.out 2).trans rfl
                  have hcz23_3 : wr.cell? ⟨gb116, 3, none⟩ = some (.slice A0_3 l0_3.length c0_3) := (blk_cell BK116.out 3).trans rfl
                  have hfz23_0 := blk_frozen BK116.out 0
                  have hfz23_1 := blk_frozen BK116.out 1
                  have hfz23_2 := blk_frozen BK116.out 2
                  have hfz23_3 := blk_frozen BK116.out 3
                  go_wp2
                  go_loopg [7, 32] k2 (fun kq v7 v32 w' => ∃ (x5_3 : List (List Int)) (x7_3 : Bool) (x32_3 : Int), v7 = .bool x7_3 ∧ v32 = .int .i64 x32_3 ∧ Aside0 (table_fill.l2 kq l1 x5_3 x7_3 l0_3 (l0_3.length : Int) x32_3 a0_0 a0_1 a0_2 l0_3 = some r) ∧ Aside0 (kq ≤ k2) ∧ Aside0 (Kd.S (Kd.slice 61 (Kd.int .u32)) 141 w' w.heap.size (fun _ => True) (.slice Ao9 x5_2.length co9) x5_3) ∧ Aside0 (w'.heap[gb116]? = some (.cells #[.int .i64 a0_0, .int .i64 a0_1, .int .i64 a0_2, (.slice A0_3 l0_3.length c0_3)] 51 (0, 0))) ∧ Aside0 (Below w.heap.size w w'))
                  case atStart => exact ⟨(x5_2), (false), (0), (by first | rfl | (simp; done) | (simp [*]; done)), (by first | rfl | (simp; done) | (simp [*]; done)), H', ⟨Nat.le_refl _⟩, ⟨by (try simp only [hl5_1]); (try simp only [hl5_2]); (with_reducible repeat (first | apply Kd.S_alloc | apply Kd.S_drewN | apply Kd.S_drew)); exact HO_5.out⟩, ⟨by (try simp only [hl5_1]); (try simp only [hl5_2]); (with_reducible repeat (first | refine blk_drewN ?_ _ | refine blk_drew ?_ | refine blk_alloc ?_ _)); exact BK116.out⟩, ⟨by repeat (first | (with_reducible first | exact HB.out | apply below_alloc | apply pw_below_drewN | apply below_drew1 | refine below_set ?_ GE116.out) | exact HB.out)⟩⟩
                  case round =>
                    clear H'
                    try clear c1
                    try clear p1
                    try clear q1
                    try clear hx1
                    try clear c2
                    try clear p2
                    try clear hx2
                    try clear hf2
                    try clear c3
                    try clear c3b0
                    try clear c3b1
                    try clear c4
                    try clear c4b0
                    try clear c4b1
                    try clear p6
                    try clear c10
                    try clear c10b0
                    try clear c11
                    try clear c12
                    try clear c12b0
                    try clear c12b1
                    try clear c13
                    try clear c13b0
                    try clear c13b1
                    try clear c14
                    try clear c14b0
                    try clear c15
                    try clear c15b0
                    try clear c16
                    try clear p16
                    try clear q16
                    try clear hx16
                    try clear hf16
                    try clear c20
                    try clear hx20
                    try clear hf20
                    try clear c22
                    try clear hcz23_0
                    try clear hcz23_1
                    try clear hcz23_2
                    try clear hcz23_3
                    try clear hcz6_0
                    try clear hcz6_1
                    try clear hcz6_2
                    try clear hcz6_3
                    try clear hfz23_0
                    try clear hfz23_1
                    try clear hfz23_2
                    try clear hfz23_3
                    try clear hfz6_0
                    try clear hfz6_1
                    try clear hfz6_2
                    try clear hfz6_3
                    try clear hx16_0
                    try clear hx20_0
                    try clear p1
                    try clear p16
                    try clear p2
                    try clear p6
                    try clear q1
                    try clear q16
                    obtain ⟨x5_3, x7_3, x32_3, rfl, rfl, HA, HK3, HO_5, BK116, HB⟩ := hrel
                    have hl5_3 := (Kd.S_reads' HO_5.out).1
                    rw [hl5_3] at HO_5
                    (try simp only [hl5_3])
                    (try simp only [hl5_3] at BK116)
                    cases gk with
                    | zero => exact absurd HA.out (by simp [table_fill.l2])
                    | succ k3 =>
                      have H := HA.out
                      clear HA
                      simp only [table_fill.l2] at H
                      by_cases c24 : x32_3 < (l0_3.length : Int)
                      · rw [if_pos c24] at H
                        have c24b0 : decide (x32_3 < (l0_3.length : Int)) = true := decide_eq_true c24
                        (try (have c24b0h := c24b0; simp only [hl5_1, hl5_2, hl5_3] at c24b0h))
                        clear c24
                        by_cases c25 : 0 ≤ x32_3
                        · rw [if_pos c25] at H
                          have c25b0 : decide (0 ≤ x32_3) = true := decide_eq_true c25
                          clear c25
                          by_cases c26 : x32_3 < (l0_3.length : Int)
                          · rw [if_pos c26] at H
                            have c26b0 : decide (x32_3 < (l0_3.length : Int)) = true := decide_eq_true c26
                            (try (have c26b0h := c26b0; simp only [hl5_1, hl5_2, hl5_3] at c26b0h))
                            clear c26
                            have H' := Aside0.mk H
                            clear H
                            have p124 : 0 ≤ (x32_3 : Int) := of_decide_eq_true (by first | (with_reducible assumption) | assumption)
                            have q124 : x32_3 < (l0_3.length : Int) := of_decide_eq_true (by first | (with_reducible assumption) | assumption)
                            obtain ⟨ad124, A124_1, c124_1, e124, hx124_0, hx124_1, hl124_1, hi124_1⟩ := at_T126 HR0_3.out x32_3 p124 q124
                            cases e124
                            replace hx124_0 := (HB.out.cell (World.block_lt_of_cell? w _ hx124_0)).trans hx124_0
                            replace hx124_1 := (HB.out.cell (World.block_lt_of_cell? w _ hx124_1)).trans hx124_1
                            have HR124_1 := Aside0.mk hi124_1
                            have HC124_1 := Aside0.mk hl124_1
                            clear hi124_1 hl124_1
                            replace p124 := eq_true p124
                            replace q124 := eq_true q124
                            go_wp2_with (first | ((with_reducible refine gate_dst (N := 9) rfl ?_); refine box_event ?hg (N := 9) ?hd (cs := #[.int .i64 0, .slice none 0 0]) (t := 126) ?hr ?_; (case hd => rfl); (case hg => rfl); (case hr => first | (go_simp; done) | (go_simp; rfl)); intro gb125 hg w27 hbox hb; have n0_ := Aside0.mk (Kd.S_below (by (with_reducible repeat (first | apply Kd.S_alloc | apply Kd.S_drewN | apply Kd.S_drew)); exact HO_5.out) hb); have n1_ := Aside0.mk (blk_below (g := gb116) (o := .cells #[.int .i64 a0_0, .int .i64 a0_1, .int .i64 a0_2, .slice (some ad124) l0_3.length c0_3] 51 (0, 0)) (by (with_reducible repeat (first | refine blk_drewN ?_ _ | refine blk_drew ?_ | refine blk_alloc ?_ _)); exact BK116.out) hb); have n2_ := Aside0.mk (below_step (by repeat (first | (with_reducible first | exact HB.out | apply below_alloc | apply pw_below_drewN | apply below_drew1 | refine below_set ?_ GE116.out) | exact HB.out)) hb); have n3_ := Aside0.mk (hbox); have n4_ := Aside0.mk ((by rw [hg]; exact (below_size (by repeat (first | (with_reducible first | exact HB.out | apply below_alloc | apply pw_below_drewN | apply below_drew1 | refine below_set ?_ GE116.out) | exact HB.out))) : w.heap.size ≤ gb125)); have n5_ := Aside0.mk ((by rw [hg]; exact (below_size (by repeat (first | (with_reducible first | exact HB.out | apply below_alloc | apply pw_below_drewN | apply below_drew1 | refine below_set ?_ GE116.out) | exact HB.out))) : w.heap.size ≤ gb125)); have n6_ := Aside0.mk ((by rw [hg]; exact Nat.ne_of_lt (blk_lt (g := gb116) (o := .cells #[.int .i64 a0_0, .int .i64 a0_1, .int .i64 a0_2, .slice (some ad124) l0_3.length c0_3] 51 (0, 0)) (by (with_reducible repeat (first | refine blk_drewN ?_ _ | refine blk_drew ?_ | refine blk_alloc ?_ _)); exact BK116.out)) : gb116 ≠ gb125)); have n7_ := Aside0.mk ((by rw [hg]; exact Nat.ne_of_gt (blk_lt (g := gb116) (o := .cells #[.int .i64 a0_0, .int .i64 a0_1, .int .i64 a0_2, .slice (some ad124) l0_3.length c0_3] 51 (0, 0)) (by (with_reducible repeat (first | refine blk_drewN ?_ _ | refine blk_drew ?_ | refine blk_alloc ?_ _)); exact BK116.out)) : gb125 ≠ gb116)); clear HO_5; clear BK116; clear HB; have HO_5 := n0_; have BK116 := n1_; have HB := n2_; have BK125 := n3_; have GW125 := n4_; have GE125 := n5_; have NB116_125 := n6_; have NB125_116 := n7_; clear n0_ n1_ n2_ n3_ n4_ n5_ n6_ n7_; clear hb hbox hg; have hnb28 := NB125_116.out; have hnc28 := NB116_125.out; have hcz29_0 : w27.cell? ⟨gb125, 0, none⟩ = some (.int .i64 0) := (blk_cell BK125.out 0).trans rfl; have hcz29_1 : w27.cell? ⟨gb125, 1, none⟩ = some (.slice none 0 0) := (blk_cell BK125.out 1).trans rfl; have hfz29_0 := blk_frozen BK125.out 0; have hfz29_1 := blk_frozen BK125.out 1))
                            go_loopg [7, 39] k3 (fun kq v7 v39 w' => ∃ (x5_4 : List (List Int)) (x7_4 : Bool) (x39_4 : Int), v7 = .bool x7_4 ∧ v39 = .int .i64 x39_4 ∧ Aside0 (table_fill.l3 kq l1 x5_4 x7_4 l0_3 (l0_3.length : Int) x32_3 (wrap64 ((l1.length : Int) + 1)) x39_4 a0_0 a0_1 a0_2 l0_3 ((rd_T126 l0_3 x32_3).f0) ((rd_T126 l0_3 x32_3).f1) = some r) ∧ Aside0 (kq ≤ k3) ∧ Aside0 (Kd.S (Kd.slice 61 (Kd.int .u32)) 141 w' w.heap.size (fun _ => True) (.slice Ao9 x5_3.length co9) x5_4) ∧ Aside0 (w'.heap[gb116]? = some (.cells #[.int .i64 a0_0, .int .i64 a0_1, .int .i64 a0_2, (.slice (some ad124) l0_3.length c0_3)] 51 (0, 0))) ∧ Aside0 (w'.heap[gb125]? = some (.cells #[.int .i64 ((rd_T126 l0_3 x32_3).f0), (.slice A124_1 ((rd_T126 l0_3 x32_3).f1).length c124_1)] 126 (0, 0))) ∧ Aside0 (Below w.heap.size w w'))
                            case atStart => exact ⟨(x5_3), (x7_3), (0), (by first | rfl | (simp; done) | (simp [*]; done)), (by first | rfl | (simp; done) | (simp [*]; done)), H', ⟨Nat.le_refl _⟩, ⟨by (try simp only [hl5_1]); (try simp only [hl5_2]); (try simp only [hl5_3]); (with_reducible repeat (first | apply Kd.S_alloc | apply Kd.S_drewN | apply Kd.S_drew)); exact Kd.S_mono (Kd.S_far (p := ⟨gb125, 1, none⟩) (Kd.S_far (p := ⟨gb125, 0, none⟩) (Kd.S_types HO_5.out BK125.out (by decide)) (fun _ hk => hk.2) (.int .i64 ((rd_T126 l0_3 x32_3).f0))) (fun _ hk => hk.2) (.slice A124_1 ((rd_T126 l0_3 x32_3).f1).length c124_1)) (fun _ hk => trivial)⟩, ⟨by (try simp only [hl5_1]); (try simp only [hl5_2]); (try simp only [hl5_3]); (with_reducible repeat (first | refine blk_drewN ?_ _ | refine blk_drew ?_ | refine blk_alloc ?_ _)); refine blk_far ?_ NB116_125.out _; (with_reducible repeat (first | refine blk_drewN ?_ _ | refine blk_drew ?_ | refine blk_alloc ?_ _)); refine blk_far ?_ NB116_125.out _; (with_reducible repeat (first | refine blk_drewN ?_ _ | refine blk_drew ?_ | refine blk_alloc ?_ _)); exact BK116.out⟩, ⟨by (try simp only [hl5_1]); (try simp only [hl5_2]); (try simp only [hl5_3]); (with_reducible repeat (first | refine blk_drewN ?_ _ | refine blk_drew ?_ | refine blk_alloc ?_ _)); refine blk_put (cs := #[.int .i64 ((rd_T126 l0_3 x32_3).f0), .slice none 0 0]) ?_ 1 _ rfl; (with_reducible repeat (first | refine blk_drewN ?_ _ | refine blk_drew ?_ | refine blk_alloc ?_ _)); refine blk_put (cs := #[.int .i64 0, .slice none 0 0]) ?_ 0 _ rfl; (with_reducible repeat (first | refine blk_drewN ?_ _ | refine blk_drew ?_ | refine blk_alloc ?_ _)); exact BK125.out⟩, ⟨by repeat (first | (with_reducible first | exact HB.out | apply below_alloc | apply pw_below_drewN | apply below_drew1 | refine below_set ?_ GE116.out | refine below_set ?_ GE125.out) | exact HB.out)⟩⟩
                            case round =>
                              clear H'
                              try clear c1
                              try clear p1
                              try clear q1
                              try clear hx1
                              try clear c2
                              try clear p2
                              try clear hx2
                              try clear hf2
                              try clear c3
                              try clear c3b0
                              try clear c3b1
                              try clear c4
                              try clear c4b0
                              try clear c4b1
                              try clear p6
                              try clear c10
                              try clear c10b0
                              try clear c11
                              try clear c12
                              try clear c12b0
                              try clear c12b1
                              try clear p12
                              try clear q12
                              try clear hx12
                              try clear c13
                              try clear c13b0
                              try clear c13b1
                              try clear c14
                              try clear c14b0
                              try clear c15
                              try clear c15b0
                              try clear c16
                              try clear p16
                              try clear q16
                              try clear hx16
                              try clear hf16
                              try clear c20
                              try clear hx20
                              try clear hf20
                              try clear c22
                              try clear c24
                              try clear c24b0
                              try clear c25
                              try clear c25b0
                              try clear c26
                              try clear c26b0
                              try clear c28
                              try clear hcz23_0
                              try clear hcz23_1
                              try clear hcz23_2
                              try clear hcz23_3
                              try clear hcz29_0
                              try clear hcz29_1
                              try clear hcz6_0
                              try clear hcz6_1
                              try clear hcz6_2
                              try clear hcz6_3
                              try clear hfz23_0
                              try clear hfz23_1
                              try clear hfz23_2
                              try clear hfz23_3
                              try clear hfz29_0
                              try clear hfz29_1
                              try clear hfz6_0
                              try clear hfz6_1
                              try clear hfz6_2
                              try clear hfz6_3
                              try clear hx124_0
                              try clear hx124_1
                              try clear hx16_0
                              try clear hx20_0
                              try clear p1
                              try clear p124
                              try clear p16
                              try clear p2
                              try clear p6
                              try clear q1
                              try clear q124
                              try clear q16
                              obtain ⟨x5_4, x7_4, x39_4, rfl, rfl, HA, HK4, HO_5, BK116, BK125, HB⟩ := hrel
                              have hl5_4 := (Kd.S_reads' HO_5.out).1
                              rw [hl5_4] at HO_5
                              (try simp only [hl5_4])
                              (try simp only [hl5_4] at BK116)
                              (try simp only [hl5_4] at BK125)
                              cases gk with
                              | zero => exact absurd HA.out (by simp [table_fill.l3])
                              | succ k4 =>
                                have H := HA.out
                                clear HA
                                simp only [table_fill.l3] at H
                                by_cases c30 : x39_4 < (wrap64 ((l1.length : Int) + 1))
                                · rw [if_pos c30] at H
                                  have c30b0 : decide (x39_4 < (wrap64 ((l1.length : Int) + 1))) = true := decide_eq_true c30
                                  (try (have c30b0h := c30b0; simp only [hl5_1, hl5_2, hl5_3, hl5_4] at c30b0h))
                                  clear c30
                                  by_cases c31 : 0 ≤ x39_4
                                  · rw [if_pos c31] at H
                                    have c31b0 := eq_true c31
                                    have c31b1 : decide (0 ≤ x39_4) = true := decide_eq_true c31
                                    clear c31
                                    obtain ⟨ji32, hji32⟩ : ∃ j_ : Int, (shl .u32 1 x39_4) = j_ := ⟨_, rfl⟩
                                    replace H : ((table_spans_ends.f k4 x5_4 a0_0 a0_1 a0_2 l0_3 l1 ((rd_T126 l0_3 x32_3).f1) (ji32)).bind fun t126 => (if x7_4 = true then (if 0 ≤ ((rd_T126 l0_3 x32_3).f0) then (if ((rd_T126 l0_3 x32_3).f0) < (x5_4.length : Int) then (if x39_4 < ((rd_L4 x5_4 ((rd_T126 l0_3 x32_3).f0)).length : Int) then (table_fill.l3 k4 l1 (x5_4.set (((rd_T126 l0_3 x32_3).f0) : Int).toNat ((rd_L4 x5_4 ((rd_T126 l0_3 x32_3).f0)).set (x39_4 : Int).toNat (Go.bits .or .u32 (rd (rd_L4 x5_4 ((rd_T126 l0_3 x32_3).f0)) x39_4) t126))) true l0_3 (l0_3.length : Int) x32_3 (wrap64 ((l1.length : Int) + 1)) (wrap64 (x39_4 + 1)) a0_0 a0_1 a0_2 l0_3 ((rd_T126 l0_3 x32_3).f0) ((rd_T126 l0_3 x32_3).f1)) else (none)) else (none)) else (none)) else (if 0 ≤ ((rd_T126 l0_3 x32_3).f0) then (if ((rd_T126 l0_3 x32_3).f0) < (x5_4.length : Int) then (if x39_4 < ((rd_L4 x5_4 ((rd_T126 l0_3 x32_3).f0)).length : Int) then (table_fill.l3 k4 l1 (x5_4.set (((rd_T126 l0_3 x32_3).f0) : Int).toNat ((rd_L4 x5_4 ((rd_T126 l0_3 x32_3).f0)).set (x39_4 : Int).toNat (Go.bits .or .u32 (rd (rd_L4 x5_4 ((rd_T126 l0_3 x32_3).f0)) x39_4) t126))) ((Go.bits .andNot .u32 t126 (rd (rd_L4 x5_4 ((rd_T126 l0_3 x32_3).f0)) x39_4)) != 0) l0_3 (l0_3.length : Int) x32_3 (wrap64 ((l1.length : Int) + 1)) (wrap64 (x39_4 + 1)) a0_0 a0_1 a0_2 l0_3 ((rd_T126 l0_3 x32_3).f0) ((rd_T126 l0_3 x32_3).f1)) else (none)) else (none)) else (none)))) = some r := by first | (rw [hji32] at H; exact H) | (simp only [hji32] at H ⊢; exact H)
                                    have hji32_ : (IntKind.u32.wrap (1 * 2 ^ min x39_4.toNat 32)) = ji32 := hji32
                                    have hji32z : x39_4 ≤ 32 → (IntKind.u32.wrap (1 * 2 ^ x39_4.toNat)) = ji32 := shl_small hji32
                                    have hji32u : (IntKind.u32.wrap (2 ^ min x39_4.toNat 32)) = ji32 := by have h_ := hji32_; rw [Int.one_mul] at h_; exact h_
                                    have hji32v : x39_4 ≤ 32 → (IntKind.u32.wrap (2 ^ x39_4.toNat)) = ji32 := fun hle_ => by have h_ := hji32z hle_; rw [Int.one_mul] at h_; exact h_
                                    replace H := Option.bind_eq_some_iff.mp H
                                    obtain ⟨t126, A330, H⟩ := H
                                    replace H : (if x7_4 = true then (if 0 ≤ ((rd_T126 l0_3 x32_3).f0) then (if ((rd_T126 l0_3 x32_3).f0) < (x5_4.length : Int) then (if x39_4 < ((rd_L4 x5_4 ((rd_T126 l0_3 x32_3).f0)).length : Int) then (table_fill.l3 k4 l1 (x5_4.set (((rd_T126 l0_3 x32_3).f0) : Int).toNat ((rd_L4 x5_4 ((rd_T126 l0_3 x32_3).f0)).set (x39_4 : Int).toNat (Go.bits .or .u32 (rd (rd_L4 x5_4 ((rd_T126 l0_3 x32_3).f0)) x39_4) t126))) true l0_3 (l0_3.length : Int) x32_3 (wrap64 ((l1.length : Int) + 1)) (wrap64 (x39_4 + 1)) a0_0 a0_1 a0_2 l0_3 ((rd_T126 l0_3 x32_3).f0) ((rd_T126 l0_3 x32_3).f1)) else (none)) else (none)) else (none)) else (if 0 ≤ ((rd_T126 l0_3 x32_3).f0) then (if ((rd_T126 l0_3 x32_3).f0) < (x5_4.length : Int) then (if x39_4 < ((rd_L4 x5_4 ((rd_T126 l0_3 x32_3).f0)).length : Int) then (table_fill.l3 k4 l1 (x5_4.set (((rd_T126 l0_3 x32_3).f0) : Int).toNat ((rd_L4 x5_4 ((rd_T126 l0_3 x32_3).f0)).set (x39_4 : Int).toNat (Go.bits .or .u32 (rd (rd_L4 x5_4 ((rd_T126 l0_3 x32_3).f0)) x39_4) t126))) ((Go.bits .andNot .u32 t126 (rd (rd_L4 x5_4 ((rd_T126 l0_3 x32_3).f0)) x39_4)) != 0) l0_3 (l0_3.length : Int) x32_3 (wrap64 ((l1.length : Int) + 1)) (wrap64 (x39_4 + 1)) a0_0 a0_1 a0_2 l0_3 ((rd_T126 l0_3 x32_3).f0) ((rd_T126 l0_3 x32_3).f1)) else (none)) else (none)) else (none))) = some r := H
                                    have A33 := Aside0.mk A330
                                    clear A330
                                    by_cases c34 : x7_4 = true
                                    · subst c34
                                      have H1 : (if 0 ≤ ((rd_T126 l0_3 x32_3).f0) then (if ((rd_T126 l0_3 x32_3).f0) < (x5_4.length : Int) then (if x39_4 < ((rd_L4 x5_4 ((rd_T126 l0_3 x32_3).f0)).length : Int) then (table_fill.l3 k4 l1 (x5_4.set (((rd_T126 l0_3 x32_3).f0) : Int).toNat ((rd_L4 x5_4 ((rd_T126 l0_3 x32_3).f0)).set (x39_4 : Int).toNat (Go.bits .or .u32 (rd (rd_L4 x5_4 ((rd_T126 l0_3 x32_3).f0)) x39_4) t126))) true l0_3 (l0_3.length : Int) x32_3 (wrap64 ((l1.length : Int) + 1)) (wrap64 (x39_4 + 1)) a0_0 a0_1 a0_2 l0_3 ((rd_T126 l0_3 x32_3).f0) ((rd_T126 l0_3 x32_3).f1)) else (none)) else (none)) else (none)) = some r := by rw [if_pos rfl] at H; exact H
                                      clear H
                                      have H := H1
                                      clear H1
                                      by_cases c35 : 0 ≤ ((rd_T126 l0_3 x32_3).f0)
                                      · rw [if_pos c35] at H
                                        have c35b0 : decide (0 ≤ ((rd_T126 l0_3 x32_3).f0)) = true := decide_eq_true c35
                                        clear c35
                                        by_cases c36 : ((rd_T126 l0_3 x32_3).f0) < (x5_4.length : Int)
                                        · rw [if_pos c36] at H
                                          have c36b0 : decide (((rd_T126 l0_3 x32_3).f0) < (x5_4.length : Int)) = true := decide_eq_true c36
                                          (try (have c36b0h := c36b0; simp only [hl5_1, hl5_2, hl5_3, hl5_4] at c36b0h))
                                          clear c36
                                          by_cases c37 : x39_4 < ((rd_L4 x5_4 ((rd_T126 l0_3 x32_3).f0)).length : Int)
                                          · rw [if_pos c37] at H
                                            have c37b0 : decide (x39_4 < ((rd_L4 x5_4 ((rd_T126 l0_3 x32_3).f0)).length : Int)) = true := decide_eq_true c37
                                            (try (have c37b0h := c37b0; simp only [hl5_1, hl5_2, hl5_3, hl5_4] at c37b0h))
                                            clear c37
                                            obtain ⟨y129, hy129⟩ : ∃ y_ : List Int, y_ = ((rd_L4 x5_4 ((rd_T126 l0_3 x32_3).f0)).set (x39_4 : Int).toNat (Go.bits .or .u32 (rd (rd_L4 x5_4 ((rd_T126 l0_3 x32_3).f0)) x39_4) t126)) := ⟨_, rfl⟩
                                            replace H : (table_fill.l3 k4 l1 (x5_4.set (((rd_T126 l0_3 x32_3).f0) : Int).toNat y129) true l0_3 (l0_3.length : Int) x32_3 (wrap64 ((l1.length : Int) + 1)) (wrap64 (x39_4 + 1)) a0_0 a0_1 a0_2 l0_3 ((rd_T126 l0_3 x32_3).f0) ((rd_T126 l0_3 x32_3).f1)) = some r := by first | (rw [hy129]; with_reducible exact H) | (have H2_ := (Option.bind_some _ _).symm.trans H; rw [hy129]; with_reducible exact H2_) | (have H2_ := (Option.bind_some _ _).symm.trans H; with_reducible exact H2_) | with_reducible exact H | (rw [hy129]; exact H) | exact H
                                            have Ny129 := Aside0.mk hy129
                                            clear hy129
                                            obtain ⟨y131, hy131⟩ : ∃ y_ : List (List Int), y_ = (x5_4.set (((rd_T126 l0_3 x32_3).f0) : Int).toNat y129) := ⟨_, rfl⟩
                                            replace H : (table_fill.l3 k4 l1 y131 true l0_3 (l0_3.length : Int) x32_3 (wrap64 ((l1.length : Int) + 1)) (wrap64 (x39_4 + 1)) a0_0 a0_1 a0_2 l0_3 ((rd_T126 l0_3 x32_3).f0) ((rd_T126 l0_3 x32_3).f1)) = some r := by first | (rw [hy131]; with_reducible exact H) | (have H2_ := (Option.bind_some _ _).symm.trans H; rw [hy131]; with_reducible exact H2_) | (have H2_ := (Option.bind_some _ _).symm.trans H; with_reducible exact H2_) | with_reducible exact H | (rw [hy131]; exact H) | exact H
                                            have Ny131 := Aside0.mk hy131
                                            clear hy131
                                            have H' := Aside0.mk H
                                            clear H
                                            try go_wp2
                                            have n0_ := Aside0.mk (Kd.S_drew HO_5.out)
                                            have n1_ := Aside0.mk (blk_drew BK116.out)
                                            have n2_ := Aside0.mk (blk_drew BK125.out)
                                            have n3_ := Aside0.mk (below_drew1 HB.out)
                                            clear HO_5
                                            clear BK116
                                            clear BK125
                                            clear HB
                                            have HO_5 := n0_
                                            have BK116 := n1_
                                            have BK125 := n2_
                                            have HB := n3_
                                            clear n0_ n1_ n2_ n3_
                                            refine start_ (n := 9) (S := fun w' => w'.cell? ⟨gb116, 0, none⟩ = some (.int .i64 a0_0) ∧ w'.cell? ⟨gb116, 1, none⟩ = some (.int .i64 a0_1) ∧ w'.cell? ⟨gb116, 2, none⟩ = some (.int .i64 a0_2) ∧ w'.cell? ⟨gb116, 3, none⟩ = some (.slice (some ad124) l0_3.length c0_3) ∧ w'.cell? ⟨gb125, 0, none⟩ = some (.int .i64 ((rd_T126 l0_3 x32_3).f0)) ∧ w'.cell? ⟨gb125, 1, none⟩ = some (.slice A124_1 ((rd_T126 l0_3 x32_3).f1).length c124_1)) (ds := []) #[false, false, false, false, false, false, false, false, false] (by kernel_rfl) rfl rfl ⟨(blk_cell BK116.out 0).trans rfl, (blk_cell BK116.out 1).trans rfl, (blk_cell BK116.out 2).trans rfl, (blk_cell BK116.out 3).trans rfl, (blk_cell BK125.out 0).trans rfl, (blk_cell BK125.out 1).trans rfl⟩ (fun hHeld => ?_); refine with_tabW table_fill.tab16 table_fill.bits16 (fun HT_ HW_ => ?_)
                                            generalize wr.drew = w39 at HO_5 BK116 BK125 HB hHeld ⊢
                                            refine pure_ (i := 0) (N := some 42) (v := ?_) (a' := ?_) #[true, false, false, false, false, false, false, false, false] rfl rfl (any_of HT_.out (by kernel_rfl)) (fun _ _ _ h => h) (Or.inl ⟨by rfl, ?_⟩) ?_ ?_
                                            rotate_left
                                            · intro w'
                                              go_simp
                                              with_reducible rfl
                                            rotate_left
                                            · simp only [Act.put, List.setIfInBounds_toArray, List.set_cons_zero, List.set_cons_succ, i64_w, i32_w]
                                              rfl
                                            refine pure_ (i := 2) (N := some 44) (v := ?_) (a' := ?_) #[true, false, true, false, false, false, false, false, false] rfl rfl (any_of HT_.out (by kernel_rfl)) (fun _ _ _ h => h) (Or.inl ⟨by rfl, ?_⟩) ?_ ?_
                                            rotate_left
                                            · intro w'
                                              go_simp
                                              with_reducible rfl
                                            rotate_left
                                            · simp only [Act.put, List.setIfInBounds_toArray, List.set_cons_zero, List.set_cons_succ, i64_w, i32_w]
                                              rfl
                                            refine pure_ (i := 3) (N := some 45) (v := ?_) (a' := ?_) #[true, false, true, true, false, false, false, false, false] rfl rfl (any_of HT_.out (by kernel_rfl)) (fun _ _ _ h => h) (Or.inl ⟨by rfl, ?_⟩) ?_ ?_
                                            rotate_left
                                            · intro w'
                                              go_simp
                                              with_reducible rfl
                                            rotate_left
                                            · simp only [Act.put, List.setIfInBounds_toArray, List.set_cons_zero, List.set_cons_succ, i64_w, i32_w]
                                              rfl
                                            refine pure_ (i := 5) (N := some 47) (v := ?_) (a' := ?_) #[true, false, true, true, false, true, false, false, false] rfl rfl (any_of HT_.out (by kernel_rfl)) (fun _ _ _ h => h) (Or.inl ⟨by rfl, ?_⟩) ?_ ?_
                                            rotate_left
                                            · intro w'
                                              go_simp
                                              with_reducible rfl
                                            rotate_left
                                            · simp only [Act.put, List.setIfInBounds_toArray, List.set_cons_zero, List.set_cons_succ, i64_w, i32_w]
                                              rfl
                                            refine pure_ (i := 6) (N := some 48) (v := ?_) (a' := ?_) #[true, false, true, true, false, true, true, false, false] rfl rfl (any_of HT_.out (by kernel_rfl)) (fun _ _ _ h => h) (Or.inl ⟨by rfl, ?_⟩) ?_ ?_
                                            rotate_left
                                            · intro w'
                                              go_simp
                                              with_reducible rfl
                                            rotate_left
                                            · simp only [Act.put, List.setIfInBounds_toArray, List.set_cons_zero, List.set_cons_succ, i64_w, i32_w]
                                              rfl
                                            refine take_ (i := 1) (N := some 43) (v := ?_) (a' := ?_) #[true, true, true, true, false, true, true, false, false] rfl rfl (take_ofW HT_.out HW_.out (by kernel_rfl)) (fun _ _ _ h => h) (Or.inl ⟨by rfl, ?_⟩) hHeld ?_ ?_
                                            rotate_left
                                            · rintro w' ⟨s0, s1, s2, s3, s4, s5⟩
                                              go_simp
                                              with_reducible rfl
                                            rotate_left
                                            · simp only [Act.put, List.setIfInBounds_toArray, List.set_cons_zero, List.set_cons_succ, i64_w, i32_w]
                                              rfl
                                            refine take_ (i := 4) (N := some 46) (v := ?_) (a' := ?_) #[true, true, true, true, true, true, true, false, false] rfl rfl (take_ofW HT_.out HW_.out (by kernel_rfl)) (fun _ _ _ h => h) (Or.inl ⟨by rfl, ?_⟩) hHeld ?_ ?_
                                            rotate_left
                                            · rintro w' ⟨s0, s1, s2, s3, s4, s5⟩
                                              go_simp
                                              with_reducible rfl
                                            rotate_left
                                            · simp only [Act.put, List.setIfInBounds_toArray, List.set_cons_zero, List.set_cons_succ, i64_w, i32_w]
                                              rfl
                                            refine one_ (i := 7) (N := some 49) #[true, true, true, true, true, true, true, true, false] rfl rfl (one_of HT_.out (by kernel_rfl)) (by decide) (fun K hK => ?_)
                                            refine goes_ Try.func135 (by kernel_rfl) rfl #[.slice Ao9 x5_4.length co9, .agg #[.int .i64 a0_0, .int .i64 a0_1, .int .i64 a0_2, .slice (some ad124) l0_3.length c0_3], .slice A1 l1.length c1, .slice A124_1 ((rd_T126 l0_3 x32_3).f1).length c124_1, .int .u32 ji32] (by rfl) rfl rfl (by (try simp only [List.map_toArray, List.map_cons, List.map_nil]); first | done | (simp only [hji32]; rfl) | rfl | (simp only [List.length_drop, List.length_take]; rfl)) ?_
                                            with_reducible refine (table_spans_ends.calls k4 _ _ x5_4 a0_0 a0_1 a0_2 _ _ l0_3 _ _ l1 _ _ ((rd_T126 l0_3 x32_3).f1) ji32 t126 _ ?side1 ?side2 ?side3 ?side4 ?side5 ?side6 ?side7 ?side8 A33.out).mono ?_
                                            (case side1 => repeat (first | exact (Kd.S_reads' HO_5.out).2.2 | (with_reducible refine Kd.C_alloc ?_ _) | (with_reducible refine Kd.C_drewN ?_ _) | (with_reducible refine Kd.C_drew ?_)))
                                            (case side2 => exact (Kd.S_reads' HO_5.out).2.1)
                                            (case side3 => repeat (first | exact (Kd.C_below HR0_3.out HB.out) | (with_reducible refine Kd.C_alloc ?_ _) | (with_reducible refine Kd.C_drewN ?_ _) | (with_reducible refine Kd.C_drew ?_)))
                                            (case side4 => exact HC0_3.out)
                                            (case side5 => repeat (first | exact (Kd.C_below HR1.out HB.out) | (with_reducible refine Kd.C_alloc ?_ _) | (with_reducible refine Kd.C_drewN ?_ _) | (with_reducible refine Kd.C_drew ?_)))
                                            (case side6 => exact HC1.out)
                                            (case side7 => repeat (first | exact (Kd.C_below HR124_1.out HB.out) | (with_reducible refine Kd.C_alloc ?_ _) | (with_reducible refine Kd.C_drewN ?_ _) | (with_reducible refine Kd.C_drew ?_)))
                                            (case side8 => exact HC124_1.out)
                                            rintro e w40 ⟨rfl, hb⟩
                                            refine ⟨_, rfl, ?_⟩
                                            have n0_ := Aside0.mk (Kd.S_below (by (with_reducible repeat (first | apply Kd.S_alloc | apply Kd.S_drewN | apply Kd.S_drew)); exact HO_5.out) hb)
                                            have n1_ := Aside0.mk (blk_below (g := gb116) (o := .cells #[.int .i64 a0_0, .int .i64 a0_1, .int .i64 a0_2, .slice (some ad124) l0_3.length c0_3] 51 (0, 0)) (by (with_reducible repeat (first | refine blk_drewN ?_ _ | refine blk_drew ?_ | refine blk_alloc ?_ _)); exact BK116.out) hb)
                                            have n2_ := Aside0.mk (blk_below (g := gb125) (o := .cells #[.int .i64 ((rd_T126 l0_3 x32_3).f0), .slice A124_1 ((rd_T126 l0_3 x32_3).f1).length c124_1] 126 (0, 0)) (by (with_reducible repeat (first | refine blk_drewN ?_ _ | refine blk_drew ?_ | refine blk_alloc ?_ _)); exact BK125.out) hb)
                                            have n3_ := Aside0.mk (below_step (by repeat (first | (with_reducible first | exact HB.out | apply below_alloc | apply pw_below_drewN | apply below_drew1 | refine below_set ?_ GE116.out | refine below_set ?_ GE125.out) | exact HB.out)) hb)
                                            clear HO_5
                                            clear BK116
                                            clear BK125
                                            clear HB
                                            have HO_5 := n0_
                                            have BK116 := n1_
                                            have BK125 := n2_
                                            have HB := n3_
                                            clear n0_ n1_ n2_ n3_
                                            (try clear hb)
                                            (try clear hb2)
                                            (try clear hk)
                                            (try clear hi)
                                            refine hK.out _ _ ⟨(blk_cell BK116.out 0).trans rfl, (blk_cell BK116.out 1).trans rfl, (blk_cell BK116.out 2).trans rfl, (blk_cell BK116.out 3).trans rfl, (blk_cell BK125.out 0).trans rfl, (blk_cell BK125.out 1).trans rfl⟩ (fun hHeld => ?_)
                                            clear hK K
                                            refine norm_ (a' := ?_) ?_ ?_
                                            rotate_left
                                            · show Act.put _ (some 49) _ = _
                                              simp only [Act.put, List.setIfInBounds_toArray, List.set_cons_zero, List.set_cons_succ, i64_w, i32_w]
                                              rfl
                                            refine pure_ (i := 8) (N := some 11) (v := ?_) (a' := ?_) #[true, true, true, true, true, true, true, true, true] rfl rfl (any_of HT_.out (by kernel_rfl)) (fun _ _ _ h => h) (Or.inl ⟨by rfl, ?_⟩) ?_ ?_
                                            rotate_left
                                            · intro w'
                                              go_simp
                                              with_reducible rfl
                                            rotate_left
                                            · simp only [Act.put, List.setIfInBounds_toArray, List.set_cons_zero, List.set_cons_succ, i64_w, i32_w]
                                              rfl
                                            refine done_ (done_of HT_.out (by kernel_rfl)) ?_
                                            have hnb41 := NB125_116.out
                                            have hnc41 := NB116_125.out
                                            have hcz42_0 : w40.cell? ⟨gb125, 0, none⟩ = some (.int .i64 ((rd_T126 l0_3 x32_3).f0)) := (blk_cell BK125.out 0).trans rfl
                                            have hcz42_1 : w40.cell? ⟨gb125, 1, none⟩ = some (.slice A124_1 ((rd_T126 l0_3 x32_3).f1).length c124_1) := (blk_cell BK125.out 1).trans rfl
                                            have hfz42_0 := blk_frozen BK125.out 0
                                            have hfz42_1 := blk_frozen BK125.out 1
                                            have p127 : 0 ≤ (((rd_T126 l0_3 x32_3).f0) : Int) := of_decide_eq_true (by first | (with_reducible assumption) | assumption)
                                            have q127 : ((rd_T126 l0_3 x32_3).f0) < (x5_4.length : Int) := of_decide_eq_true (by first | (with_reducible assumption) | assumption)
                                            obtain ⟨ad127, A127_0, c127_0, e127, hx127_0, hl127_0, hi127_0⟩ := at_L4 (Kd.S_reads' HO_5.out).2.2 ((rd_T126 l0_3 x32_3).f0) p127 q127
                                            cases e127
                                            obtain ⟨ce127, hce127, hMe127, hcc127⟩ := Kd.S_get HO_5.out [] ((rd_T126 l0_3 x32_3).f0) p127 (by first | exact q127 | exact of_decide_eq_true (by first | (with_reducible assumption) | assumption) | (have e_ := (Kd.S_reads' HO_5.out).1; omega))
                                            obtain ⟨ve127_0, rfl, ge127_0⟩ := id hMe127
                                            have hv127_0 := hcc127 0 _ rfl
                                            rw [Nat.add_zero, show ((Kd.slice 61 (Kd.int .u32))).sz = 1 from rfl, Nat.mul_one] at hv127_0
                                            replace hv127_0 := Option.some.inj (hv127_0.symm.trans hx127_0)
                                            rw [hv127_0] at ge127_0
                                            have HL127_0 := Aside0.mk (show Kd.R (Kd.int .u32) 61 _ _ _ _ (rd_L4 x5_4 ((rd_T126 l0_3 x32_3).f0)) from ge127_0)
                                            clear hv127_0 ge127_0
                                            have HX127_0 := Aside0.mk hx127_0
                                            clear hcc127 hce127
                                            have HR127_0 := Aside0.mk hi127_0
                                            have HC127_0 := Aside0.mk hl127_0
                                            clear hi127_0 hl127_0
                                            replace p127 := eq_true p127
                                            replace q127 := eq_true q127
                                            have p128 : 0 ≤ (x39_4 : Int) := of_decide_eq_true (by first | (with_reducible assumption) | assumption)
                                            have q128 : x39_4 < ((rd_L4 x5_4 ((rd_T126 l0_3 x32_3).f0)).length : Int) := of_decide_eq_true (by first | (with_reducible assumption) | assumption)
                                            obtain ⟨ad128, e128, hx128_0⟩ := Kd.at_int (by repeat (first | (with_reducible exact HR127_0.out) | (with_reducible refine Kd.C_alloc ?_ _) | (with_reducible refine Kd.C_drewN ?_ _) | (with_reducible refine Kd.C_drew ?_) | exact HR127_0.out)) x39_4 p128 q128
                                            cases e128
                                            replace p128 := eq_true p128
                                            replace q128 := eq_true q128
                                            have p38 : 0 ≤ (x39_4 : Int) := of_decide_eq_true (by first | (with_reducible assumption) | assumption)
                                            have q38 : (x39_4 : Int) < (((rd_L4 x5_4 ((rd_T126 l0_3 x32_3).f0)).length : Int) : Int) := of_decide_eq_true (by first | (with_reducible assumption) | assumption)
                                            obtain ⟨go38, co38, eo38, gb38, gl38, cl38, HG38⟩ := Kd.R_form HL127_0.out (by omega)
                                            (first | cases eo38 | (injection eo38 with ea_ en_ ec_; (first | subst ea_ | (injection ea_ with ea_; subst ea_)); subst ec_; clear en_))
                                            have GB38 := Aside0.mk gb38
                                            have GG38 := Aside0.mk HG38
                                            clear gb38 gl38 HG38
                                            (first | simp only [add_plain] at hx128_0 | skip)
                                            obtain ⟨hx38_0, hf38_0⟩ := Kd.R_celln 0 HL127_0.out (x39_4 : Int) p38 q38
                                            replace p38 := eq_true p38
                                            replace q38 := eq_true q38
                                            have hq43 : (((rd_T126 l0_3 x32_3).f0) : Int) < (x5_4.length : Int) := (by have h_ : (((rd_T126 l0_3 x32_3).f0) : Int) < ((x5_4.length : Int) : Int) := of_decide_eq_true (by first | (with_reducible assumption) | assumption); first | exact h_ | (have e_ := (Kd.S_reads' HO_5.out).1; omega) | simpa only [List.length_set, List.length_set] using h_)
                                            obtain ⟨oki43, ce43, hcl43, hM43, hcc43, hok43, hbk43⟩ := Kd.S_borrow HO_5.out [] (((rd_T126 l0_3 x32_3).f0) : Int) (of_decide_eq_true (by first | (with_reducible assumption) | assumption)) hq43
                                            obtain ⟨ve43_0, rfl, ge43_0⟩ := id hM43
                                            have hv43 := hcc43 0 _ rfl
                                            rw [Nat.add_zero, show ((Kd.slice 61 (Kd.int .u32))).sz = 1 from rfl, Nat.mul_one] at hv43
                                            replace hv43 := Option.some.inj (hv43.symm.trans HX127_0.out)
                                            subst hv43
                                            clear hcc43 hcl43
                                            replace ge43_0 := (show Kd.R (Kd.int .u32) 61 _ _ _ _ (rd_L4 x5_4 ((rd_T126 l0_3 x32_3).f0)) from ge43_0)
                                            have HP43 := Kd.R_putg ge43_0 (x39_4 : Int) (Go.bits .or .u32 (rd (rd_L4 x5_4 ((rd_T126 l0_3 x32_3).f0)) x39_4) t126)
                                            try go_wp2_with (first | ((with_reducible refine gate_store (t := 61) (p := 74) rfl ?_); refine store_event (t := 61) (p := 74) (v := ?vo_w44) (w1 := (w40.setCell ⟨go38, (x39_4 : Int).toNat, none⟩ (.int .u32 (Go.bits .or .u32 (rd (rd_L4 x5_4 ((rd_T126 l0_3 x32_3).f0)) x39_4) t126)))) ?hg ?ho ?hn ?hr ?_; (case ho => rfl); (case hg => rfl); (case hn => rfl); (case hr => first | (go_simp; done) | (go_simp; rfl)); intro w44 hw; have hg : w40.grownBy w44 (some go38) := (by rw [hw]; exact HP43.2); have hz_ : Kd.R (Kd.int .u32) 61 w44 w.heap.size oki43 (.slice (some ⟨go38, 0, none⟩) (rd_L4 x5_4 ((rd_T126 l0_3 x32_3).f0)).length c127_0) y129 := (by rw [hw, Ny129.out]; exact HP43.1); have hp_ : Kd.S (Kd.slice 61 (Kd.int .u32)) 141 w44 w.heap.size (fun _ => True) (.slice (some ad127) x5_4.length co9) y131 := (by rw [Ny131.out]; exact hbk43 hg (fun k_ e_ => by injection e_ with e_; subst e_; exact ge43_0.1 _ rfl) (Kd.M_row hz_)); have hm_ := Kd.R_mono hz_ hok43; clear HP43 hbk43; have n0_ := Aside0.mk (hp_); have n1_ := Aside0.mk (blk_grown (g := gb116) (o := .cells #[.int .i64 a0_0, .int .i64 a0_1, .int .i64 a0_2, .slice (some ad124) l0_3.length c0_3] 51 (0, 0)) (by (with_reducible repeat (first | refine blk_drewN ?_ _ | refine blk_drew ?_ | refine blk_alloc ?_ _)); exact BK116.out) hg (Kd.R_ne HL127_0.out BK116.out (by decide))); have n2_ := Aside0.mk (blk_grown (g := gb125) (o := .cells #[.int .i64 ((rd_T126 l0_3 x32_3).f0), .slice A124_1 ((rd_T126 l0_3 x32_3).f1).length c124_1] 126 (0, 0)) (by (with_reducible repeat (first | refine blk_drewN ?_ _ | refine blk_drew ?_ | refine blk_alloc ?_ _)); exact BK125.out) hg (Kd.R_ne HL127_0.out BK125.out (by decide))); have n3_ := Aside0.mk ((by rw [hw]; exact below_set (HB.out) GB38.out : Below w.heap.size w w44)); have n4_ := Aside0.mk (hm_); have n5_ := Aside0.mk ((Kd.R_reads' hm_).2.1); clear HO_5; clear BK116; clear BK125; clear HB; clear HL127_0; have HO_5 := n0_; have BK116 := n1_; have BK125 := n2_; have HB := n3_; have HL139 := n4_; have HC130 := n5_; clear n0_ n1_ n2_ n3_ n4_ n5_; clear hg hw hp_ hz_ hm_ hok43))
                                            (try simp only [← hl5_4])
                                            first | go_roundg k4 | ((simp only [← hji32]); go_roundg k4)
                                            case measure => have := HK1.out; have := HK2.out; have := HK3.out; have := HK4.out; omega
                                            case rel => exact ⟨(y131), (true), (wrap64 (x39_4 + 1)), (by first | rfl | (simp; done) | (simp [*]; done)), (by first | rfl | (simp; done) | (simp [*]; done)), (by first | exact H' | ((simp only [hji32]); exact H') | (have h_ := H'.out; simp only [← hji32] at h_ ⊢; exact ⟨h_⟩)), ⟨by have := HK1.out; have := HK2.out; have := HK3.out; have := HK4.out; omega⟩, ⟨by (try simp only [hl5_1]); (try simp only [hl5_2]); (try simp only [hl5_3]); (try simp only [hl5_4]); (with_reducible repeat (first | apply Kd.S_alloc | apply Kd.S_drewN | apply Kd.S_drew)); exact HO_5.out⟩, ⟨by (try simp only [hl5_1]); (try simp only [hl5_2]); (try simp only [hl5_3]); (try simp only [hl5_4]); (with_reducible repeat (first | refine blk_drewN ?_ _ | refine blk_drew ?_ | refine blk_alloc ?_ _)); (first | exact BK116.out | (have h_ := BK116.out; simp only [← hji32] at h_; exact h_))⟩, ⟨by (try simp only [hl5_1]); (try simp only [hl5_2]); (try simp only [hl5_3]); (try simp only [hl5_4]); (with_reducible repeat (first | refine blk_drewN ?_ _ | refine blk_drew ?_ | refine blk_alloc ?_ _)); (first | exact BK125.out | (have h_ := BK125.out; simp only [← hji32] at h_; exact h_))⟩, ⟨by repeat (first | (with_reducible first | exact HB.out | apply below_alloc | apply pw_below_drewN | apply below_drew1 | refine below_set ?_ GE116.out | refine below_set ?_ GE125.out) | exact HB.out)⟩⟩
                                          · rw [if_neg c37] at H
                                            exact absurd H (by simp)
                                        · rw [if_neg c36] at H
                                          exact absurd H (by simp)
                                      · rw [if_neg c35] at H
                                        exact absurd H (by simp)
                                    · replace c34 := Bool.eq_false_iff.mpr c34
                                      subst c34
                                      have H1 : (if 0 ≤ ((rd_T126 l0_3 x32_3).f0) then (if ((rd_T126 l0_3 x32_3).f0) < (x5_4.length : Int) then (if x39_4 < ((rd_L4 x5_4 ((rd_T126 l0_3 x32_3).f0)).length : Int) then (table_fill.l3 k4 l1 (x5_4.set (((rd_T126 l0_3 x32_3).f0) : Int).toNat ((rd_L4 x5_4 ((rd_T126 l0_3 x32_3).f0)).set (x39_4 : Int).toNat (Go.bits .or .u32 (rd (rd_L4 x5_4 ((rd_T126 l0_3 x32_3).f0)) x39_4) t126))) ((Go.bits .andNot .u32 t126 (rd (rd_L4 x5_4 ((rd_T126 l0_3 x32_3).f0)) x39_4)) != 0) l0_3 (l0_3.length : Int) x32_3 (wrap64 ((l1.length : Int) + 1)) (wrap64 (x39_4 + 1)) a0_0 a0_1 a0_2 l0_3 ((rd_T126 l0_3 x32_3).f0) ((rd_T126 l0_3 x32_3).f1)) else (none)) else (none)) else (none)) = some r := by rw [if_neg (show ¬ (false = true) by decide)] at H; exact H
                                      clear H
                                      have H := H1
                                      clear H1
                                      by_cases c45 : 0 ≤ ((rd_T126 l0_3 x32_3).f0)
                                      · rw [if_pos c45] at H
                                        have c45b0 : decide (0 ≤ ((rd_T126 l0_3 x32_3).f0)) = true := decide_eq_true c45
                                        clear c45
                                        by_cases c46 : ((rd_T126 l0_3 x32_3).f0) < (x5_4.length : Int)
                                        · rw [if_pos c46] at H
                                          have c46b0 : decide (((rd_T126 l0_3 x32_3).f0) < (x5_4.length : Int)) = true := decide_eq_true c46
                                          (try (have c46b0h := c46b0; simp only [hl5_1, hl5_2, hl5_3, hl5_4] at c46b0h))
                                          clear c46
                                          by_cases c47 : x39_4 < ((rd_L4 x5_4 ((rd_T126 l0_3 x32_3).f0)).length : Int)
                                          · rw [if_pos c47] at H
                                            have c47b0 : decide (x39_4 < ((rd_L4 x5_4 ((rd_T126 l0_3 x32_3).f0)).length : Int)) = true := decide_eq_true c47
                                            (try (have c47b0h := c47b0; simp only [hl5_1, hl5_2, hl5_3, hl5_4] at c47b0h))
                                            clear c47
                                            obtain ⟨y136, hy136⟩ : ∃ y_ : List Int, y_ = ((rd_L4 x5_4 ((rd_T126 l0_3 x32_3).f0)).set (x39_4 : Int).toNat (Go.bits .or .u32 (rd (rd_L4 x5_4 ((rd_T126 l0_3 x32_3).f0)) x39_4) t126)) := ⟨_, rfl⟩
                                            replace H : (table_fill.l3 k4 l1 (x5_4.set (((rd_T126 l0_3 x32_3).f0) : Int).toNat y136) ((Go.bits .andNot .u32 t126 (rd (rd_L4 x5_4 ((rd_T126 l0_3 x32_3).f0)) x39_4)) != 0) l0_3 (l0_3.length : Int) x32_3 (wrap64 ((l1.length : Int) + 1)) (wrap64 (x39_4 + 1)) a0_0 a0_1 a0_2 l0_3 ((rd_T126 l0_3 x32_3).f0) ((rd_T126 l0_3 x32_3).f1)) = some r := by first | (rw [hy136]; with_reducible exact H) | (have H2_ := (Option.bind_some _ _).symm.trans H; rw [hy136]; with_reducible exact H2_) | (have H2_ := (Option.bind_some _ _).symm.trans H; with_reducible exact H2_) | with_reducible exact H | (rw [hy136]; exact H) | exact H
                                            have Ny136 := Aside0.mk hy136
                                            clear hy136
                                            obtain ⟨y138, hy138⟩ : ∃ y_ : List (List Int), y_ = (x5_4.set (((rd_T126 l0_3 x32_3).f0) : Int).toNat y136) := ⟨_, rfl⟩
                                            replace H : (table_fill.l3 k4 l1 y138 ((Go.bits .andNot .u32 t126 (rd (rd_L4 x5_4 ((rd_T126 l0_3 x32_3).f0)) x39_4)) != 0) l0_3 (l0_3.length : Int) x32_3 (wrap64 ((l1.length : Int) + 1)) (wrap64 (x39_4 + 1)) a0_0 a0_1 a0_2 l0_3 ((rd_T126 l0_3 x32_3).f0) ((rd_T126 l0_3 x32_3).f1)) = some r := by first | (rw [hy138]; with_reducible exact H) | (have H2_ := (Option.bind_some _ _).symm.trans H; rw [hy138]; with_reducible exact H2_) | (have H2_ := (Option.bind_some _ _).symm.trans H; with_reducible exact H2_) | with_reducible exact H | (rw [hy138]; exact H) | exact H
                                            have Ny138 := Aside0.mk hy138
                                            clear hy138
                                            have H' := Aside0.mk H
                                            clear H
                                            try go_wp2
                                            have n0_ := Aside0.mk (Kd.S_drew HO_5.out)
                                            have n1_ := Aside0.mk (blk_drew BK116.out)
                                            have n2_ := Aside0.mk (blk_drew BK125.out)
                                            have n3_ := Aside0.mk (below_drew1 HB.out)
                                            clear HO_5
                                            clear BK116
                                            clear BK125
                                            clear HB
                                            have HO_5 := n0_
                                            have BK116 := n1_
                                            have BK125 := n2_
                                            have HB := n3_
                                            clear n0_ n1_ n2_ n3_
                                            refine start_ (n := 9) (S := fun w' => w'.cell? ⟨gb116, 0, none⟩ = some (.int .i64 a0_0) ∧ w'.cell? ⟨gb116, 1, none⟩ = some (.int .i64 a0_1) ∧ w'.cell? ⟨gb116, 2, none⟩ = some (.int .i64 a0_2) ∧ w'.cell? ⟨gb116, 3, none⟩ = some (.slice (some ad124) l0_3.length c0_3) ∧ w'.cell? ⟨gb125, 0, none⟩ = some (.int .i64 ((rd_T126 l0_3 x32_3).f0)) ∧ w'.cell? ⟨gb125, 1, none⟩ = some (.slice A124_1 ((rd_T126 l0_3 x32_3).f1).length c124_1)) (ds := []) #[false, false, false, false, false, false, false, false, false] (by kernel_rfl) rfl rfl ⟨(blk_cell BK116.out 0).trans rfl, (blk_cell BK116.out 1).trans rfl, (blk_cell BK116.out 2).trans rfl, (blk_cell BK116.out 3).trans rfl, (blk_cell BK125.out 0).trans rfl, (blk_cell BK125.out 1).trans rfl⟩ (fun hHeld => ?_); refine with_tabW table_fill.tab16 table_fill.bits16 (fun HT_ HW_ => ?_)
                                            generalize wr.drew = w49 at HO_5 BK116 BK125 HB hHeld ⊢
                                            refine pure_ (i := 0) (N := some 42) (v := ?_) (a' := ?_) #[true, false, false, false, false, false, false, false, false] rfl rfl (any_of HT_.out (by kernel_rfl)) (fun _ _ _ h => h) (Or.inl ⟨by rfl, ?_⟩) ?_ ?_
                                            rotate_left
                                            · intro w'
                                              go_simp
                                              with_reducible rfl
                                            rotate_left
                                            · simp only [Act.put, List.setIfInBounds_toArray, List.set_cons_zero, List.set_cons_succ, i64_w, i32_w]
                                              rfl
                                            refine pure_ (i := 2) (N := some 44) (v := ?_) (a' := ?_) #[true, false, true, false, false, false, false, false, false] rfl rfl (any_of HT_.out (by kernel_rfl)) (fun _ _ _ h => h) (Or.inl ⟨by rfl, ?_⟩) ?_ ?_
                                            rotate_left
                                            · intro w'
                                              go_simp
                                              with_reducible rfl
                                            rotate_left
                                            · simp only [Act.put, List.setIfInBounds_toArray, List.set_cons_zero, List.set_cons_succ, i64_w, i32_w]
                                              rfl
                                            refine pure_ (i := 3) (N := some 45) (v := ?_) (a' := ?_) #[true, false, true, true, false, false, false, false, false] rfl rfl (any_of HT_.out (by kernel_rfl)) (fun _ _ _ h => h) (Or.inl ⟨by rfl, ?_⟩) ?_ ?_
                                            rotate_left
                                            · intro w'
                                              go_simp
                                              with_reducible rfl
                                            rotate_left
                                            · simp only [Act.put, List.setIfInBounds_toArray, List.set_cons_zero, List.set_cons_succ, i64_w, i32_w]
                                              rfl
                                            refine pure_ (i := 5) (N := some 47) (v := ?_) (a' := ?_) #[true, false, true, true, false, true, false, false, false] rfl rfl (any_of HT_.out (by kernel_rfl)) (fun _ _ _ h => h) (Or.inl ⟨by rfl, ?_⟩) ?_ ?_
                                            rotate_left
                                            · intro w'
                                              go_simp
                                              with_reducible rfl
                                            rotate_left
                                            · simp only [Act.put, List.setIfInBounds_toArray, List.set_cons_zero, List.set_cons_succ, i64_w, i32_w]
                                              rfl
                                            refine pure_ (i := 6) (N := some 48) (v := ?_) (a' := ?_) #[true, false, true, true, false, true, true, false, false] rfl rfl (any_of HT_.out (by kernel_rfl)) (fun _ _ _ h => h) (Or.inl ⟨by rfl, ?_⟩) ?_ ?_
                                            rotate_left
                                            · intro w'
                                              go_simp
                                              with_reducible rfl
                                            rotate_left
                                            · simp only [Act.put, List.setIfInBounds_toArray, List.set_cons_zero, List.set_cons_succ, i64_w, i32_w]
                                              rfl
                                            refine take_ (i := 1) (N := some 43) (v := ?_) (a' := ?_) #[true, true, true, true, false, true, true, false, false] rfl rfl (take_ofW HT_.out HW_.out (by kernel_rfl)) (fun _ _ _ h => h) (Or.inl ⟨by rfl, ?_⟩) hHeld ?_ ?_
                                            rotate_left
                                            · rintro w' ⟨s0, s1, s2, s3, s4, s5⟩
                                              go_simp
                                              with_reducible rfl
                                            rotate_left
                                            · simp only [Act.put, List.setIfInBounds_toArray, List.set_cons_zero, List.set_cons_succ, i64_w, i32_w]
                                              rfl
                                            refine take_ (i := 4) (N := some 46) (v := ?_) (a' := ?_) #[true, true, true, true, true, true, true, false, false] rfl rfl (take_ofW HT_.out HW_.out (by kernel_rfl)) (fun _ _ _ h => h) (Or.inl ⟨by rfl, ?_⟩) hHeld ?_ ?_
                                            rotate_left
                                            · rintro w' ⟨s0, s1, s2, s3, s4, s5⟩
                                              go_simp
                                              with_reducible rfl
                                            rotate_left
                                            · simp only [Act.put, List.setIfInBounds_toArray, List.set_cons_zero, List.set_cons_succ, i64_w, i32_w]
                                              rfl
                                            refine one_ (i := 7) (N := some 49) #[true, true, true, true, true, true, true, true, false] rfl rfl (one_of HT_.out (by kernel_rfl)) (by decide) (fun K hK => ?_)
                                            refine goes_ Try.func135 (by kernel_rfl) rfl #[.slice Ao9 x5_4.length co9, .agg #[.int .i64 a0_0, .int .i64 a0_1, .int .i64 a0_2, .slice (some ad124) l0_3.length c0_3], .slice A1 l1.length c1, .slice A124_1 ((rd_T126 l0_3 x32_3).f1).length c124_1, .int .u32 ji32] (by rfl) rfl rfl (by (try simp only [List.map_toArray, List.map_cons, List.map_nil]); first | done | (simp only [hji32]; rfl) | rfl | (simp only [List.length_drop, List.length_take]; rfl)) ?_
                                            with_reducible refine (table_spans_ends.calls k4 _ _ x5_4 a0_0 a0_1 a0_2 _ _ l0_3 _ _ l1 _ _ ((rd_T126 l0_3 x32_3).f1) ji32 t126 _ ?side1 ?side2 ?side3 ?side4 ?side5 ?side6 ?side7 ?side8 A33.out).mono ?_
                                            (case side1 => repeat (first | exact (Kd.S_reads' HO_5.out).2.2 | (with_reducible refine Kd.C_alloc ?_ _) | (with_reducible refine Kd.C_drewN ?_ _) | (with_reducible refine Kd.C_drew ?_)))
                                            (case side2 => exact (Kd.S_reads' HO_5.out).2.1)
                                            (case side3 => repeat (first | exact (Kd.C_below HR0_3.out HB.out) | (with_reducible refine Kd.C_alloc ?_ _) | (with_reducible refine Kd.C_drewN ?_ _) | (with_reducible refine Kd.C_drew ?_)))
                                            (case side4 => exact HC0_3.out)
                                            (case side5 => repeat (first | exact (Kd.C_below HR1.out HB.out) | (with_reducible refine Kd.C_alloc ?_ _) | (with_reducible refine Kd.C_drewN ?_ _) | (with_reducible refine Kd.C_drew ?_)))
                                            (case side6 => exact HC1.out)
                                            (case side7 => repeat (first | exact (Kd.C_below HR124_1.out HB.out) | (with_reducible refine Kd.C_alloc ?_ _) | (with_reducible refine Kd.C_drewN ?_ _) | (with_reducible refine Kd.C_drew ?_)))
                                            (case side8 => exact HC124_1.out)
                                            rintro e w50 ⟨rfl, hb⟩
                                            refine ⟨_, rfl, ?_⟩
                                            have n0_ := Aside0.mk (Kd.S_below (by (with_reducible repeat (first | apply Kd.S_alloc | apply Kd.S_drewN | apply Kd.S_drew)); exact HO_5.out) hb)
                                            have n1_ := Aside0.mk (blk_below (g := gb116) (o := .cells #[.int .i64 a0_0, .int .i64 a0_1, .int .i64 a0_2, .slice (some ad124) l0_3.length c0_3] 51 (0, 0)) (by (with_reducible repeat (first | refine blk_drewN ?_ _ | refine blk_drew ?_ | refine blk_alloc ?_ _)); exact BK116.out) hb)
                                            have n2_ := Aside0.mk (blk_below (g := gb125) (o := .cells #[.int .i64 ((rd_T126 l0_3 x32_3).f0), .slice A124_1 ((rd_T126 l0_3 x32_3).f1).length c124_1] 126 (0, 0)) (by (with_reducible repeat (first | refine blk_drewN ?_ _ | refine blk_drew ?_ | refine blk_alloc ?_ _)); exact BK125.out) hb)
                                            have n3_ := Aside0.mk (below_step (by repeat (first | (with_reducible first | exact HB.out | apply below_alloc | apply pw_below_drewN | apply below_drew1 | refine below_set ?_ GE116.out | refine below_set ?_ GE125.out) | exact HB.out)) hb)
                                            clear HO_5
                                            clear BK116
                                            clear BK125
                                            clear HB
                                            have HO_5 := n0_
                                            have BK116 := n1_
                                            have BK125 := n2_
                                            have HB := n3_
                                            clear n0_ n1_ n2_ n3_
                                            (try clear hb)
                                            (try clear hb2)
                                            (try clear hk)
                                            (try clear hi)
                                            refine hK.out _ _ ⟨(blk_cell BK116.out 0).trans rfl, (blk_cell BK116.out 1).trans rfl, (blk_cell BK116.out 2).trans rfl, (blk_cell BK116.out 3).trans rfl, (blk_cell BK125.out 0).trans rfl, (blk_cell BK125.out 1).trans rfl⟩ (fun hHeld => ?_)
                                            clear hK K
                                            refine norm_ (a' := ?_) ?_ ?_
                                            rotate_left
                                            · show Act.put _ (some 49) _ = _
                                              simp only [Act.put, List.setIfInBounds_toArray, List.set_cons_zero, List.set_cons_succ, i64_w, i32_w]
                                              rfl
                                            refine pure_ (i := 8) (N := some 11) (v := ?_) (a' := ?_) #[true, true, true, true, true, true, true, true, true] rfl rfl (any_of HT_.out (by kernel_rfl)) (fun _ _ _ h => h) (Or.inl ⟨by rfl, ?_⟩) ?_ ?_
                                            rotate_left
                                            · intro w'
                                              go_simp
                                              with_reducible rfl
                                            rotate_left
                                            · simp only [Act.put, List.setIfInBounds_toArray, List.set_cons_zero, List.set_cons_succ, i64_w, i32_w]
                                              rfl
                                            refine done_ (done_of HT_.out (by kernel_rfl)) ?_
                                            have hnb51 := NB125_116.out
                                            have hnc51 := NB116_125.out
                                            have hcz52_0 : w50.cell? ⟨gb125, 0, none⟩ = some (.int .i64 ((rd_T126 l0_3 x32_3).f0)) := (blk_cell BK125.out 0).trans rfl
                                            have hcz52_1 : w50.cell? ⟨gb125, 1, none⟩ = some (.slice A124_1 ((rd_T126 l0_3 x32_3).f1).length c124_1) := (blk_cell BK125.out 1).trans rfl
                                            have hfz52_0 := blk_frozen BK125.out 0
                                            have hfz52_1 := blk_frozen BK125.out 1
                                            have p132 : 0 ≤ (((rd_T126 l0_3 x32_3).f0) : Int) := of_decide_eq_true (by first | (with_reducible assumption) | assumption)
                                            have q132 : ((rd_T126 l0_3 x32_3).f0) < (x5_4.length : Int) := of_decide_eq_true (by first | (with_reducible assumption) | assumption)
                                            obtain ⟨ad132, A132_0, c132_0, e132, hx132_0, hl132_0, hi132_0⟩ := at_L4 (Kd.S_reads' HO_5.out).2.2 ((rd_T126 l0_3 x32_3).f0) p132 q132
                                            cases e132
                                            obtain ⟨ce132, hce132, hMe132, hcc132⟩ := Kd.S_get HO_5.out [] ((rd_T126 l0_3 x32_3).f0) p132 (by first | exact q132 | exact of_decide_eq_true (by first | (with_reducible assumption) | assumption) | (have e_ := (Kd.S_reads' HO_5.out).1; omega))
                                            obtain ⟨ve132_0, rfl, ge132_0⟩ := id hMe132
                                            have hv132_0 := hcc132 0 _ rfl
                                            rw [Nat.add_zero, show ((Kd.slice 61 (Kd.int .u32))).sz = 1 from rfl, Nat.mul_one] at hv132_0
                                            replace hv132_0 := Option.some.inj (hv132_0.symm.trans hx132_0)
                                            rw [hv132_0] at ge132_0
                                            have HL132_0 := Aside0.mk (show Kd.R (Kd.int .u32) 61 _ _ _ _ (rd_L4 x5_4 ((rd_T126 l0_3 x32_3).f0)) from ge132_0)
                                            clear hv132_0 ge132_0
                                            have HX132_0 := Aside0.mk hx132_0
                                            clear hcc132 hce132
                                            have HR132_0 := Aside0.mk hi132_0
                                            have HC132_0 := Aside0.mk hl132_0
                                            clear hi132_0 hl132_0
                                            replace p132 := eq_true p132
                                            replace q132 := eq_true q132
                                            have p133 : 0 ≤ (x39_4 : Int) := of_decide_eq_true (by first | (with_reducible assumption) | assumption)
                                            have q133 : x39_4 < ((rd_L4 x5_4 ((rd_T126 l0_3 x32_3).f0)).length : Int) := of_decide_eq_true (by first | (with_reducible assumption) | assumption)
                                            obtain ⟨ad133, e133, hx133_0⟩ := Kd.at_int (by repeat (first | (with_reducible exact HR132_0.out) | (with_reducible refine Kd.C_alloc ?_ _) | (with_reducible refine Kd.C_drewN ?_ _) | (with_reducible refine Kd.C_drew ?_) | exact HR132_0.out)) x39_4 p133 q133
                                            cases e133
                                            replace p133 := eq_true p133
                                            replace q133 := eq_true q133
                                            have p134 : 0 ≤ (((rd_T126 l0_3 x32_3).f0) : Int) := of_decide_eq_true (by first | (with_reducible assumption) | assumption)
                                            have q134 : ((rd_T126 l0_3 x32_3).f0) < (x5_4.length : Int) := of_decide_eq_true (by first | (with_reducible assumption) | assumption)
                                            obtain ⟨ad134, A134_0, c134_0, e134, hx134_0, hl134_0, hi134_0⟩ := at_L4 (Kd.S_reads' HO_5.out).2.2 ((rd_T126 l0_3 x32_3).f0) p134 q134
                                            obtain rfl : ad132 = ad134 := (by injection e134)
                                            obtain ⟨ce134, hce134, hMe134, hcc134⟩ := Kd.S_get HO_5.out [] ((rd_T126 l0_3 x32_3).f0) p134 (by first | exact q134 | exact of_decide_eq_true (by first | (with_reducible assumption) | assumption) | (have e_ := (Kd.S_reads' HO_5.out).1; omega))
                                            obtain ⟨ve134_0, rfl, ge134_0⟩ := id hMe134
                                            have hv134_0 := hcc134 0 _ rfl
                                            rw [Nat.add_zero, show ((Kd.slice 61 (Kd.int .u32))).sz = 1 from rfl, Nat.mul_one] at hv134_0
                                            replace hv134_0 := Option.some.inj (hv134_0.symm.trans hx134_0)
                                            rw [hv134_0] at ge134_0
                                            have HL134_0 := Aside0.mk (show Kd.R (Kd.int .u32) 61 _ _ _ _ (rd_L4 x5_4 ((rd_T126 l0_3 x32_3).f0)) from ge134_0)
                                            clear hv134_0 ge134_0
                                            have HX134_0 := Aside0.mk hx134_0
                                            clear hcc134 hce134
                                            have HR134_0 := Aside0.mk hi134_0
                                            have HC134_0 := Aside0.mk hl134_0
                                            clear hi134_0 hl134_0
                                            replace p134 := eq_true p134
                                            replace q134 := eq_true q134
                                            have ea_ := Option.some.inj (hx132_0.symm.trans hx134_0)
                                            injection ea_ with ea_ en_ ec_
                                            subst ea_
                                            subst ec_
                                            clear en_
                                            have p135 : 0 ≤ (x39_4 : Int) := of_decide_eq_true (by first | (with_reducible assumption) | assumption)
                                            have q135 : x39_4 < ((rd_L4 x5_4 ((rd_T126 l0_3 x32_3).f0)).length : Int) := of_decide_eq_true (by first | (with_reducible assumption) | assumption)
                                            obtain ⟨ad135, e135, hx135_0⟩ := Kd.at_int (by repeat (first | (with_reducible exact HR134_0.out) | (with_reducible refine Kd.C_alloc ?_ _) | (with_reducible refine Kd.C_drewN ?_ _) | (with_reducible refine Kd.C_drew ?_) | exact HR134_0.out)) x39_4 p135 q135
                                            cases e135
                                            replace p135 := eq_true p135
                                            replace q135 := eq_true q135
                                            have p48 : 0 ≤ (x39_4 : Int) := of_decide_eq_true (by first | (with_reducible assumption) | assumption)
                                            have q48 : (x39_4 : Int) < (((rd_L4 x5_4 ((rd_T126 l0_3 x32_3).f0)).length : Int) : Int) := of_decide_eq_true (by first | (with_reducible assumption) | assumption)
                                            obtain ⟨go48, co48, eo48, gb48, gl48, cl48, HG48⟩ := Kd.R_form HL134_0.out (by omega)
                                            (first | cases eo48 | (injection eo48 with ea_ en_ ec_; (first | subst ea_ | (injection ea_ with ea_; subst ea_)); subst ec_; clear en_))
                                            have GB48 := Aside0.mk gb48
                                            have GG48 := Aside0.mk HG48
                                            clear gb48 gl48 HG48
                                            (first | simp only [add_plain] at hx135_0 | skip)
                                            obtain ⟨hx48_0, hf48_0⟩ := Kd.R_celln 0 HL134_0.out (x39_4 : Int) p48 q48
                                            replace p48 := eq_true p48
                                            replace q48 := eq_true q48
                                            have hq53 : (((rd_T126 l0_3 x32_3).f0) : Int) < (x5_4.length : Int) := (by have h_ : (((rd_T126 l0_3 x32_3).f0) : Int) < ((x5_4.length : Int) : Int) := of_decide_eq_true (by first | (with_reducible assumption) | assumption); first | exact h_ | (have e_ := (Kd.S_reads' HO_5.out).1; omega) | simpa only [List.length_set, List.length_set] using h_)
                                            obtain ⟨oki53, ce53, hcl53, hM53, hcc53, hok53, hbk53⟩ := Kd.S_borrow HO_5.out [] (((rd_T126 l0_3 x32_3).f0) : Int) (of_decide_eq_true (by first | (with_reducible assumption) | assumption)) hq53
                                            obtain ⟨ve53_0, rfl, ge53_0⟩ := id hM53
                                            have hv53 := hcc53 0 _ rfl
                                            rw [Nat.add_zero, show ((Kd.slice 61 (Kd.int .u32))).sz = 1 from rfl, Nat.mul_one] at hv53
                                            replace hv53 := Option.some.inj (hv53.symm.trans HX134_0.out)
                                            subst hv53
                                            clear hcc53 hcl53
                                            replace ge53_0 := (show Kd.R (Kd.int .u32) 61 _ _ _ _ (rd_L4 x5_4 ((rd_T126 l0_3 x32_3).f0)) from ge53_0)
                                            have HP53 := Kd.R_putg ge53_0 (x39_4 : Int) (Go.bits .or .u32 (rd (rd_L4 x5_4 ((rd_T126 l0_3 x32_3).f0)) x39_4) t126)
                                            try go_wp2_with (first | ((with_reducible refine gate_store (t := 61) (p := 74) rfl ?_); refine store_event (t := 61) (p := 74) (v := ?vo_w54) (w1 := (w50.setCell ⟨go48, (x39_4 : Int).toNat, none⟩ (.int .u32 (Go.bits .or .u32 (rd (rd_L4 x5_4 ((rd_T126 l0_3 x32_3).f0)) x39_4) t126)))) ?hg ?ho ?hn ?hr ?_; (case ho => rfl); (case hg => rfl); (case hn => rfl); (case hr => first | (go_simp; done) | (go_simp; rfl)); intro w54 hw; have hg : w50.grownBy w54 (some go48) := (by rw [hw]; exact HP53.2); have hz_ : Kd.R (Kd.int .u32) 61 w54 w.heap.size oki53 (.slice (some ⟨go48, 0, none⟩) (rd_L4 x5_4 ((rd_T126 l0_3 x32_3).f0)).length c132_0) y136 := (by rw [hw, Ny136.out]; exact HP53.1); have hp_ : Kd.S (Kd.slice 61 (Kd.int .u32)) 141 w54 w.heap.size (fun _ => True) (.slice (some ad132) x5_4.length co9) y138 := (by rw [Ny138.out]; exact hbk53 hg (fun k_ e_ => by injection e_ with e_; subst e_; exact ge53_0.1 _ rfl) (Kd.M_row hz_)); have hm_ := Kd.R_mono hz_ hok53; clear HP53 hbk53; have n0_ := Aside0.mk (hp_); have n1_ := Aside0.mk (blk_grown (g := gb116) (o := .cells #[.int .i64 a0_0, .int .i64 a0_1, .int .i64 a0_2, .slice (some ad124) l0_3.length c0_3] 51 (0, 0)) (by (with_reducible repeat (first | refine blk_drewN ?_ _ | refine blk_drew ?_ | refine blk_alloc ?_ _)); exact BK116.out) hg (Kd.R_ne HL134_0.out BK116.out (by decide))); have n2_ := Aside0.mk (blk_grown (g := gb125) (o := .cells #[.int .i64 ((rd_T126 l0_3 x32_3).f0), .slice A124_1 ((rd_T126 l0_3 x32_3).f1).length c124_1] 126 (0, 0)) (by (with_reducible repeat (first | refine blk_drewN ?_ _ | refine blk_drew ?_ | refine blk_alloc ?_ _)); exact BK125.out) hg (Kd.R_ne HL134_0.out BK125.out (by decide))); have n3_ := Aside0.mk ((by rw [hw]; exact below_set (HB.out) GB48.out : Below w.heap.size w w54)); have n4_ := Aside0.mk (hm_); have n5_ := Aside0.mk ((Kd.R_reads' hm_).2.1); clear HO_5; clear BK116; clear BK125; clear HB; clear HL132_0; clear HL134_0; have HO_5 := n0_; have BK116 := n1_; have BK125 := n2_; have HB := n3_; have HL140 := n4_; have HC137 := n5_; clear n0_ n1_ n2_ n3_ n4_ n5_; clear hg hw hp_ hz_ hm_ hok53))
                                            (try simp only [← hl5_4])
                                            first | go_roundg k4 | ((simp only [← hji32]); go_roundg k4)
                                            case measure => have := HK1.out; have := HK2.out; have := HK3.out; have := HK4.out; omega
                                            case rel => exact ⟨(y138), (((Go.bits .andNot .u32 t126 (rd (rd_L4 x5_4 ((rd_T126 l0_3 x32_3).f0)) x39_4)) != 0)), (wrap64 (x39_4 + 1)), (by first | rfl | (simp; done) | (simp [*]; done)), (by first | rfl | (simp; done) | (simp [*]; done)), (by first | exact H' | ((simp only [hji32]); exact H') | (have h_ := H'.out; simp only [← hji32] at h_ ⊢; exact ⟨h_⟩)), ⟨by have := HK1.out; have := HK2.out; have := HK3.out; have := HK4.out; omega⟩, ⟨by (try simp only [hl5_1]); (try simp only [hl5_2]); (try simp only [hl5_3]); (try simp only [hl5_4]); (with_reducible repeat (first | apply Kd.S_alloc | apply Kd.S_drewN | apply Kd.S_drew)); exact HO_5.out⟩, ⟨by (try simp only [hl5_1]); (try simp only [hl5_2]); (try simp only [hl5_3]); (try simp only [hl5_4]); (with_reducible repeat (first | refine blk_drewN ?_ _ | refine blk_drew ?_ | refine blk_alloc ?_ _)); (first | exact BK116.out | (have h_ := BK116.out; simp only [← hji32] at h_; exact h_))⟩, ⟨by (try simp only [hl5_1]); (try simp only [hl5_2]); (try simp only [hl5_3]); (try simp only [hl5_4]); (with_reducible repeat (first | refine blk_drewN ?_ _ | refine blk_drew ?_ | refine blk_alloc ?_ _)); (first | exact BK125.out | (have h_ := BK125.out; simp only [← hji32] at h_; exact h_))⟩, ⟨by repeat (first | (with_reducible first | exact HB.out | apply below_alloc | apply pw_below_drewN | apply below_drew1 | refine below_set ?_ GE116.out | refine below_set ?_ GE125.out) | exact HB.out)⟩⟩
                                          · rw [if_neg c47] at H
                                            exact absurd H (by simp)
                                        · rw [if_neg c46] at H
                                          exact absurd H (by simp)
                                      · rw [if_neg c45] at H
                                        exact absurd H (by simp)
                                  · rw [if_neg c31] at H
                                    exact absurd H (by simp)
                                · rw [if_neg c30] at H
                                  have c30b0 : decide (x39_4 < (wrap64 ((l1.length : Int) + 1))) = false := decide_eq_false c30
                                  (try (have c30b0h := c30b0; simp only [hl5_1, hl5_2, hl5_3, hl5_4] at c30b0h))
                                  clear c30
                                  have H' := Aside0.mk H
                                  clear H
                                  go_wp2
                                  (try simp only [← hl5_3, ← hl5_4])
                                  go_roundg k4
                                  case measure => have := HK1.out; have := HK2.out; have := HK3.out; have := HK4.out; omega
                                  case rel => exact ⟨(x5_4), (x7_4), (wrap64 (x32_3 + 1)), (by first | rfl | (simp; done) | (simp [*]; done)), (by first | rfl | (simp; done) | (simp [*]; done)), H', ⟨by have := HK1.out; have := HK2.out; have := HK3.out; have := HK4.out; omega⟩, ⟨by (try simp only [hl5_1]); (try simp only [hl5_2]); (try simp only [hl5_3]); (try simp only [hl5_4]); (with_reducible repeat (first | apply Kd.S_alloc | apply Kd.S_drewN | apply Kd.S_drew)); exact HO_5.out⟩, ⟨by (try simp only [hl5_1]); (try simp only [hl5_2]); (try simp only [hl5_3]); (try simp only [hl5_4]); (with_reducible repeat (first | refine blk_drewN ?_ _ | refine blk_drew ?_ | refine blk_alloc ?_ _)); exact BK116.out⟩, ⟨by repeat (first | (with_reducible first | exact HB.out | apply below_alloc | apply pw_below_drewN | apply below_drew1 | refine below_set ?_ GE116.out | refine below_set ?_ GE125.out) | exact HB.out)⟩⟩
                          · rw [if_neg c26] at H
                            exact absurd H (by simp)
                        · rw [if_neg c25] at H
                          exact absurd H (by simp)
                      · rw [if_neg c24] at H
                        have c24b0 : decide (x32_3 < (l0_3.length : Int)) = false := decide_eq_false c24
                        (try (have c24b0h := c24b0; simp only [hl5_1, hl5_2, hl5_3] at c24b0h))
                        clear c24
                        have H' := Aside0.mk H
                        clear H
                        go_wp2
                        (try simp only [← hl5_2, ← hl5_3])
                        go_roundg k3
                        case measure => have := HK1.out; have := HK2.out; have := HK3.out; omega
                        case rel => exact ⟨(x5_3), (x7_3), (by first | rfl | (simp; done) | (simp [*]; done)), H', ⟨by have := HK1.out; have := HK2.out; have := HK3.out; omega⟩, ⟨by (try simp only [hl5_1]); (try simp only [hl5_2]); (try simp only [hl5_3]); (with_reducible repeat (first | apply Kd.S_alloc | apply Kd.S_drewN | apply Kd.S_drew)); exact HO_5.out⟩, ⟨by (try simp only [hl5_1]); (try simp only [hl5_2]); (try simp only [hl5_3]); (with_reducible repeat (first | refine blk_drewN ?_ _ | refine blk_drew ?_ | refine blk_alloc ?_ _)); exact BK116.out⟩, ⟨by repeat (first | (with_reducible first | exact HB.out | apply below_alloc | apply pw_below_drewN | apply below_drew1 | refine below_set ?_ GE116.out) | exact HB.out)⟩⟩
                · replace c22 := Bool.eq_false_iff.mpr c22
                  subst c22
                  have H1 : (some x5_2) = some r := by rw [if_neg (show ¬ (false = true) by decide)] at H; exact H
                  clear H
                  have H := H1
                  clear H1
                  obtain rfl := Option.some.inj H
                  go_wp2
                  go_ret
                  exact ⟨_, by first | rfl | (simp [errW_none, errW_some] <;> rfl) | (simp [*, errW_none, errW_some] <;> rfl), by (with_reducible repeat (first | apply Kd.S_alloc | apply Kd.S_drewN | apply Kd.S_drew)); exact HO_5.out, by repeat (first | (with_reducible first | exact HB.out | apply below_alloc | apply pw_below_drewN | apply below_drew1 | refine below_set ?_ GE116.out) | exact HB.out)⟩
    · rw [if_neg c4] at H
      exact absurd H (by simp)
  · rw [if_neg c3] at H
    exact absurd H (by simp)

end Go.Proofs.Ythgiiikjcfhgjaa.GU
