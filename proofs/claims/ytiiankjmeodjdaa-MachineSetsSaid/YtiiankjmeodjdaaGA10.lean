-- Written by ext.py, a program of this session.
import Derived.Test.YtiiankjmeodjdaaGA0
namespace Go.Proofs.Ytiiankjmeodjdaa.GA
open Go.RowKit Go.Proofs.YtiiankjmeodjdaaW.PrintWords Go.Proofs.YtiiankjmeodjdaaW.PrintLast Go.Proofs.YtiiankjmeodjdaaW.PrintMore
attribute [local go_sem] max2_int min2_int max_two min_two max_three min_three max_four min_four cellIs_set   -- for this text's walks alone
set_option linter.unusedVariables false
set_option linter.unusedSimpArgs false

/-! ### machine_Pairs: function 50 -/
mutual
def machine_Pairs.l0 : Nat → Int → Int → Int → Int → List (List Int) → Int → Int → Int → Int → List (List Int) → Int → Int → Int → Int → List (List Int) → Int → Int → Option (Int × Int × (List (List Int)) × Int × Int)
  | 0, _, _, _, _, _, _, _, _, _, _, _, _, _, _, _, _, _ => none
  | k + 1, x27, x28, x171000, x171001, x171002, x171003, x171004, x172000, x172001, x172002, x172003, x172004, x174000, x174001, x174002, x174003, x174004 => if x28 < x27 then (machine_Pairs.l1 k x28 x27 x28 x172000 0 x171000 x171001 x171002 x171003 x171004 x172000 x172001 x172002 x172003 x172004 x174000 x174001 x174002 x174003 x174004) else (some (x174000, x174001, x174002, x174003, x174004))
def machine_Pairs.l1 : Nat → Int → Int → Int → Int → Int → Int → Int → List (List Int) → Int → Int → Int → Int → List (List Int) → Int → Int → Int → Int → List (List Int) → Int → Int → Option (Int × Int × (List (List Int)) × Int × Int)
  | 0, _, _, _, _, _, _, _, _, _, _, _, _, _, _, _, _, _, _, _, _ => none
  | k + 1, x6, x27, x28, x32, x33, x171000, x171001, x171002, x171003, x171004, x172000, x172001, x172002, x172003, x172004, x174000, x174001, x174002, x174003, x174004 => if x33 < x32 then (machine_Pairs.l2 k x6 x33 ([] : List Int) x27 x28 x32 x33 x171001 0 x171000 x171001 x171002 x171003 x171004 x172000 x172001 x172002 x172003 x172004 x174000 x174001 x174002 x174003 x174004) else (machine_Pairs.l0 k x27 (wrap64 (x28 + 1)) x171000 x171001 x171002 x171003 x171004 x172000 x172001 x172002 x172003 x172004 x174000 x174001 x174002 x174003 x174004)
def machine_Pairs.l2 : Nat → Int → Int → List Int → Int → Int → Int → Int → Int → Int → Int → Int → List (List Int) → Int → Int → Int → Int → List (List Int) → Int → Int → Int → Int → List (List Int) → Int → Int → Option (Int × Int × (List (List Int)) × Int × Int)
  | 0, _, _, _, _, _, _, _, _, _, _, _, _, _, _, _, _, _, _, _, _, _, _, _, _ => none
  | k + 1, x6, x7, x8, x27, x28, x32, x33, x37, x38, x171000, x171001, x171002, x171003, x171004, x172000, x172001, x172002, x172003, x172004, x174000, x174001, x174002, x174003, x174004 => if x38 < x37 then (if 0 ≤ x6 then (if x6 < (x171002.length : Int) then (if 0 ≤ x38 then (if x38 < ((rd_L1 x171002 x6).length : Int) then (if 0 ≤ x7 then (if x7 < (x172002.length : Int) then (if x38 < ((rd_L1 x172002 x7).length : Int) then (if x8.length < 17592186044416 then (machine_Pairs.l2 k x6 x7 (x8 ++ [wrap64 ((wrap64 ((rd (rd_L1 x171002 x6) x38) * x172000)) + (rd (rd_L1 x172002 x7) x38))]) x27 x28 x32 x33 x37 (wrap64 (x38 + 1)) x171000 x171001 x171002 x171003 x171004 x172000 x172001 x172002 x172003 x172004 x174000 x174001 x174002 x174003 x174004) else (none)) else (none)) else (none)) else (none)) else (none)) else (none)) else (none)) else (none)) else (if x174002.length < 5864062014805 then ((some (x174002 ++ [x8] : List (List Int))).bind fun y181 => (if 0 ≤ x6 then (if (Go.bits .and .u32 (shr .u32 x171004 x6) 1) = 1 then (if 0 ≤ x7 then (if (Go.bits .and .u32 (shr .u32 x172004 x7) 1) = 1 then (if 0 ≤ (wrap64 ((wrap64 (x6 * x172000)) + x7)) then (machine_Pairs.l1 k x6 x27 x28 x32 (wrap64 (x33 + 1)) x171000 x171001 x171002 x171003 x171004 x172000 x172001 x172002 x172003 x172004 x174000 x174001 y181 x174003 (Go.bits .or .u32 x174004 (shl .u32 1 (wrap64 ((wrap64 (x6 * x172000)) + x7))))) else (none)) else (machine_Pairs.l1 k x6 x27 x28 x32 (wrap64 (x33 + 1)) x171000 x171001 x171002 x171003 x171004 x172000 x172001 x172002 x172003 x172004 x174000 x174001 y181 x174003 x174004)) else (none)) else (machine_Pairs.l1 k x6 x27 x28 x32 (wrap64 (x33 + 1)) x171000 x171001 x171002 x171003 x171004 x172000 x172001 x172002 x172003 x172004 x174000 x174001 y181 x174003 x174004)) else (none))) else (none))
end
def machine_Pairs.f (k : Nat) (a0_0 : Int) (a0_1 : Int) (l0_2 : List (List Int)) (a0_3 : Int) (a0_4 : Int) (a1_0 : Int) (a1_1 : Int) (l1_2 : List (List Int)) (a1_3 : Int) (a1_4 : Int) : Option (Int × Int × (List (List Int)) × Int × Int) := machine_Pairs.l0 k a0_0 0 a0_0 a0_1 l0_2 a0_3 a0_4 a1_0 a1_1 l1_2 a1_3 a1_4 (wrap64 (a0_0 * a1_0)) a0_1 ([] : List (List Int)) (wrap64 ((wrap64 (a0_3 * a1_0)) + a1_3)) 0
theorem machine_Pairs.mono_l : ∀ k, (∀ y0 y1 y2 y3 y4 y5 y6 y7 y8 y9 y10 y11 y12 y13 y14 y15 y16, LeO (machine_Pairs.l0 k y0 y1 y2 y3 y4 y5 y6 y7 y8 y9 y10 y11 y12 y13 y14 y15 y16) (machine_Pairs.l0 (k + 1) y0 y1 y2 y3 y4 y5 y6 y7 y8 y9 y10 y11 y12 y13 y14 y15 y16)) ∧ (∀ y0 y1 y2 y3 y4 y5 y6 y7 y8 y9 y10 y11 y12 y13 y14 y15 y16 y17 y18 y19, LeO (machine_Pairs.l1 k y0 y1 y2 y3 y4 y5 y6 y7 y8 y9 y10 y11 y12 y13 y14 y15 y16 y17 y18 y19) (machine_Pairs.l1 (k + 1) y0 y1 y2 y3 y4 y5 y6 y7 y8 y9 y10 y11 y12 y13 y14 y15 y16 y17 y18 y19)) ∧ (∀ y0 y1 y2 y3 y4 y5 y6 y7 y8 y9 y10 y11 y12 y13 y14 y15 y16 y17 y18 y19 y20 y21 y22 y23, LeO (machine_Pairs.l2 k y0 y1 y2 y3 y4 y5 y6 y7 y8 y9 y10 y11 y12 y13 y14 y15 y16 y17 y18 y19 y20 y21 y22 y23) (machine_Pairs.l2 (k + 1) y0 y1 y2 y3 y4 y5 y6 y7 y8 y9 y10 y11 y12 y13 y14 y15 y16 y17 y18 y19 y20 y21 y22 y23))
  | 0 => ⟨fun _ _ _ _ _ _ _ _ _ _ _ _ _ _ _ _ _ r h => by simp [machine_Pairs.l0] at h, fun _ _ _ _ _ _ _ _ _ _ _ _ _ _ _ _ _ _ _ _ r h => by simp [machine_Pairs.l1] at h, fun _ _ _ _ _ _ _ _ _ _ _ _ _ _ _ _ _ _ _ _ _ _ _ _ r h => by simp [machine_Pairs.l2] at h⟩
  | k + 1 => by
    obtain ⟨ih0, ih1, ih2⟩ := machine_Pairs.mono_l k
    refine ⟨?_, ?_, ?_⟩
    · intro y0 y1 y2 y3 y4 y5 y6 y7 y8 y9 y10 y11 y12 y13 y14 y15 y16
      unfold machine_Pairs.l0
      repeat' first
      | (with_reducible exact ih0 _ _ _ _ _ _ _ _ _ _ _ _ _ _ _ _ _)
      | (with_reducible exact ih1 _ _ _ _ _ _ _ _ _ _ _ _ _ _ _ _ _ _ _ _)
      | (with_reducible exact ih2 _ _ _ _ _ _ _ _ _ _ _ _ _ _ _ _ _ _ _ _ _ _ _ _)
      | (with_reducible exact LeO.refl _)
      | (with_reducible exact LeO.none _)
      | (with_reducible refine LeO.ite ?_ ?_)
      | (with_reducible refine LeO.bind ?_ (fun _ => ?_))
      | exact ih0 _ _ _ _ _ _ _ _ _ _ _ _ _ _ _ _ _
      | exact ih1 _ _ _ _ _ _ _ _ _ _ _ _ _ _ _ _ _ _ _ _
      | exact ih2 _ _ _ _ _ _ _ _ _ _ _ _ _ _ _ _ _ _ _ _ _ _ _ _
      | exact LeO.none _
      | refine LeO.ite ?_ ?_
      | refine LeO.bind ?_ (fun _ => ?_)
    · intro y0 y1 y2 y3 y4 y5 y6 y7 y8 y9 y10 y11 y12 y13 y14 y15 y16 y17 y18 y19
      unfold machine_Pairs.l1
      repeat' first
      | (with_reducible exact ih0 _ _ _ _ _ _ _ _ _ _ _ _ _ _ _ _ _)
      | (with_reducible exact ih1 _ _ _ _ _ _ _ _ _ _ _ _ _ _ _ _ _ _ _ _)
      | (with_reducible exact ih2 _ _ _ _ _ _ _ _ _ _ _ _ _ _ _ _ _ _ _ _ _ _ _ _)
      | (with_reducible exact LeO.refl _)
      | (with_reducible exact LeO.none _)
      | (with_reducible refine LeO.ite ?_ ?_)
      | (with_reducible refine LeO.bind ?_ (fun _ => ?_))
      | exact ih0 _ _ _ _ _ _ _ _ _ _ _ _ _ _ _ _ _
      | exact ih1 _ _ _ _ _ _ _ _ _ _ _ _ _ _ _ _ _ _ _ _
      | exact ih2 _ _ _ _ _ _ _ _ _ _ _ _ _ _ _ _ _ _ _ _ _ _ _ _
      | exact LeO.none _
      | refine LeO.ite ?_ ?_
      | refine LeO.bind ?_ (fun _ => ?_)
    · intro y0 y1 y2 y3 y4 y5 y6 y7 y8 y9 y10 y11 y12 y13 y14 y15 y16 y17 y18 y19 y20 y21 y22 y23
      unfold machine_Pairs.l2
      repeat' first
      | (with_reducible exact ih0 _ _ _ _ _ _ _ _ _ _ _ _ _ _ _ _ _)
      | (with_reducible exact ih1 _ _ _ _ _ _ _ _ _ _ _ _ _ _ _ _ _ _ _ _)
      | (with_reducible exact ih2 _ _ _ _ _ _ _ _ _ _ _ _ _ _ _ _ _ _ _ _ _ _ _ _)
      | (with_reducible exact LeO.refl _)
      | (with_reducible exact LeO.none _)
      | (with_reducible refine LeO.ite ?_ ?_)
      | (with_reducible refine LeO.bind ?_ (fun _ => ?_))
      | exact ih0 _ _ _ _ _ _ _ _ _ _ _ _ _ _ _ _ _
      | exact ih1 _ _ _ _ _ _ _ _ _ _ _ _ _ _ _ _ _ _ _ _
      | exact ih2 _ _ _ _ _ _ _ _ _ _ _ _ _ _ _ _ _ _ _ _ _ _ _ _
      | exact LeO.none _
      | refine LeO.ite ?_ ?_
      | refine LeO.bind ?_ (fun _ => ?_)
theorem machine_Pairs.mono : ∀ a0 a1 a2 a3 a4 a5 a6 a7 a8 a9 k, LeO (machine_Pairs.f k a0 a1 a2 a3 a4 a5 a6 a7 a8 a9) (machine_Pairs.f (k + 1) a0 a1 a2 a3 a4 a5 a6 a7 a8 a9) := by
  intro a0 a1 a2 a3 a4 a5 a6 a7 a8 a9 k
  obtain ⟨ih0, ih1, ih2⟩ := machine_Pairs.mono_l k
  unfold machine_Pairs.f
  repeat' first
      | (with_reducible exact ih0 _ _ _ _ _ _ _ _ _ _ _ _ _ _ _ _ _)
      | (with_reducible exact ih1 _ _ _ _ _ _ _ _ _ _ _ _ _ _ _ _ _ _ _ _)
      | (with_reducible exact ih2 _ _ _ _ _ _ _ _ _ _ _ _ _ _ _ _ _ _ _ _ _ _ _ _)
      | (with_reducible exact LeO.refl _)
      | (with_reducible exact LeO.none _)
      | (with_reducible refine LeO.ite ?_ ?_)
      | (with_reducible refine LeO.bind ?_ (fun _ => ?_))
      | exact ih0 _ _ _ _ _ _ _ _ _ _ _ _ _ _ _ _ _
      | exact ih1 _ _ _ _ _ _ _ _ _ _ _ _ _ _ _ _ _ _ _ _
      | exact ih2 _ _ _ _ _ _ _ _ _ _ _ _ _ _ _ _ _ _ _ _ _ _ _ _
      | exact LeO.none _
      | refine LeO.ite ?_ ?_
      | refine LeO.bind ?_ (fun _ => ?_)
def machine_Pairs.T12 : Bool × List (List Nat × List Nat) := (true, [([], []), ([], []), ([1], [1]), ([], []), ([2, 3], [2, 3]), ([4], [4]), ([], []), ([5, 6], [5, 6]), ([7], [7]), ([], []), ([9], [9]), ([8, 10], [8, 10]), ([], []), ([12], [12]), ([], []), ([13, 14], [13, 14]), ([15], [15]), ([], []), ([16, 17], [16, 17]), ([18], [18]), ([11, 19], [11, 19]), ([20], [20]), ([0, 21], [0, 21]), ([22, 22, 0, 1, 2, 3, 4, 5, 6, 7, 8, 9, 10, 11, 12, 13, 14, 15, 16, 17, 18, 19, 20, 21, 22], [0, 22])])
def machine_Pairs.B12 : List Nat := [0, 0, 2, 0, 14, 30, 0, 126, 254, 0, 512, 2046, 0, 4096, 0, 28672, 61440, 0, 258048, 520192, 1048574, 2097150, 4194303, 8388607]
theorem machine_Pairs.tab12 : rtab .any (opsOf Try.f50 12) = machine_Pairs.T12 := by kernel_rfl
theorem machine_Pairs.bits12 : waitsOk machine_Pairs.T12.2 machine_Pairs.B12 = true := by kernel_rfl
def machine_Pairs.T16 : Bool × List (List Nat × List Nat) := (true, [([], []), ([0], [0]), ([], []), ([], []), ([3], [3]), ([2, 4], [2, 4]), ([], []), ([5, 6], [5, 6]), ([7], [7]), ([1, 8], [1, 8]), ([0, 1, 2, 3, 4, 5, 6, 7, 8, 9], []), ([10, 9, 0, 1, 2, 3, 4, 5, 6, 7, 8, 9], [9, 10])])
def machine_Pairs.B16 : List Nat := [0, 1, 0, 0, 8, 28, 0, 124, 252, 511, 1023, 2047]
theorem machine_Pairs.tab16 : rtab .any (opsOf Try.f50 16) = machine_Pairs.T16 := by kernel_rfl
theorem machine_Pairs.bits16 : waitsOk machine_Pairs.T16.2 machine_Pairs.B16 = true := by kernel_rfl
set_option maxHeartbeats 8000000 in
set_option maxRecDepth 100000 in
theorem machine_Pairs.calls (k : Nat) (a0_0 : Int) (a0_1 : Int) (A0_2 : Option Addr) (c0_2 : Nat) (l0_2 : List (List Int)) (a0_3 : Int) (a0_4 : Int) (a1_0 : Int) (a1_1 : Int) (A1_2 : Option Addr) (c1_2 : Nat) (l1_2 : List (List Int)) (a1_3 : Int) (a1_4 : Int) (r1 : Int) (r2 : Int) (r3 : List (List Int)) (r4 : Int) (r5 : Int) (w : World) (hr0_2 : Kd.C (Kd.slice 3 (Kd.int .i64)) w A0_2 l0_2.length l0_2) (hc0_2 : l0_2.length ≤ c0_2) (hr1_2 : Kd.C (Kd.slice 3 (Kd.int .i64)) w A1_2 l1_2.length l1_2) (hc1_2 : l1_2.length ≤ c1_2) (h : machine_Pairs.f k a0_0 a0_1 l0_2 a0_3 a0_4 a1_0 a1_1 l1_2 a1_3 a1_4 = some (r1, r2, r3, r4, r5)) :
    Calls Try.prog 50 #[.agg #[.int .i64 a0_0, .int .i64 a0_1, .slice A0_2 l0_2.length c0_2, .int .i64 a0_3, .int .u32 a0_4], .agg #[.int .i64 a1_0, .int .i64 a1_1, .slice A1_2 l1_2.length c1_2, .int .i64 a1_3, .int .u32 a1_4]] w fun e w' => ∃ v2_ : Value, e = .returned (.agg #[.int .i64 r1, .int .i64 r2, v2_, .int .i64 r4, .int .u32 r5]) ∧ Kd.S (Kd.slice 3 (Kd.int .i64)) 28 w' w.heap.size (fun _ => True) v2_ r3 ∧ Below w.heap.size w w' := by
  have hu37 := Try.underlying37
  have HR0_2 := Aside0.mk hr0_2
  have HC0_2 := Aside0.mk hc0_2
  clear hr0_2 hc0_2
  have HR1_2 := Aside0.mk hr1_2
  have HC1_2 := Aside0.mk hc1_2
  clear hr1_2 hc1_2
  have HB := Aside0.mk (Below.refl w.heap.size w)
  have H : (machine_Pairs.l0 k a0_0 0 a0_0 a0_1 l0_2 a0_3 a0_4 a1_0 a1_1 l1_2 a1_3 a1_4 (wrap64 (a0_0 * a1_0)) a0_1 ([] : List (List Int)) (wrap64 ((wrap64 (a0_3 * a1_0)) + a1_3)) 0) = some (r1, r2, r3, r4, r5) := h
  clear h
  have H' := Aside0.mk H
  clear H
  go_enter Try.func50, Try.ntmps50
  go_wp2_with (first | ((with_reducible refine gate_dst (N := 2) rfl ?_); refine box_event ?hg (N := 2) ?hd (cs := #[.int .i64 a0_0, .int .i64 a0_1, .slice A0_2 l0_2.length c0_2, .int .i64 a0_3, .int .u32 a0_4]) (t := 37) ?hr ?_; (case hd => rfl); (case hg => rfl); (case hr => first | (go_simp; done) | (go_simp; rfl)); intro gb170 hg w3 hbox hb; have n0_ := Aside0.mk (below_step (by repeat (first | (with_reducible first | exact HB.out | apply below_alloc | apply pw_below_drewN | apply below_drew1) | exact HB.out)) hb); have n1_ := Aside0.mk (hbox); have n2_ := Aside0.mk ((by rw [hg]; exact (below_size (by repeat (first | (with_reducible first | exact HB.out | apply below_alloc | apply pw_below_drewN | apply below_drew1) | exact HB.out))) : w.heap.size ≤ gb170)); have n3_ := Aside0.mk ((by rw [hg]; exact (below_size (by repeat (first | (with_reducible first | exact HB.out | apply below_alloc | apply pw_below_drewN | apply below_drew1) | exact HB.out))) : w.heap.size ≤ gb170)); clear HB; have HB := n0_; have BK170 := n1_; have GW170 := n2_; have GE170 := n3_; clear n0_ n1_ n2_ n3_; clear hb hbox hg) | ((with_reducible refine gate_dst (N := 3) rfl ?_); refine box_event ?hg (N := 3) ?hd (cs := #[.int .i64 a1_0, .int .i64 a1_1, .slice A1_2 l1_2.length c1_2, .int .i64 a1_3, .int .u32 a1_4]) (t := 37) ?hr ?_; (case hd => rfl); (case hg => rfl); (case hr => first | (go_simp; done) | (go_simp; rfl)); intro gb171 hg w4 hbox hb; have n0_ := Aside0.mk (blk_below (g := gb170) (o := .cells #[.int .i64 a0_0, .int .i64 a0_1, .slice A0_2 l0_2.length c0_2, .int .i64 a0_3, .int .u32 a0_4] 37 (0, 0)) (by (with_reducible repeat (first | refine blk_drewN ?_ _ | refine blk_drew ?_ | refine blk_alloc ?_ _)); exact BK170.out) hb); have n1_ := Aside0.mk (below_step (by repeat (first | (with_reducible first | exact HB.out | apply below_alloc | apply pw_below_drewN | apply below_drew1 | refine below_set ?_ GE170.out) | exact HB.out)) hb); have n2_ := Aside0.mk (hbox); have n3_ := Aside0.mk ((by rw [hg]; exact (below_size (by repeat (first | (with_reducible first | exact HB.out | apply below_alloc | apply pw_below_drewN | apply below_drew1 | refine below_set ?_ GE170.out) | exact HB.out))) : w.heap.size ≤ gb171)); have n4_ := Aside0.mk ((by rw [hg]; exact (below_size (by repeat (first | (with_reducible first | exact HB.out | apply below_alloc | apply pw_below_drewN | apply below_drew1 | refine below_set ?_ GE170.out) | exact HB.out))) : w.heap.size ≤ gb171)); have n5_ := Aside0.mk ((by rw [hg]; exact Nat.ne_of_lt (blk_lt (g := gb170) (o := .cells #[.int .i64 a0_0, .int .i64 a0_1, .slice A0_2 l0_2.length c0_2, .int .i64 a0_3, .int .u32 a0_4] 37 (0, 0)) (by (with_reducible repeat (first | refine blk_drewN ?_ _ | refine blk_drew ?_ | refine blk_alloc ?_ _)); exact BK170.out)) : gb170 ≠ gb171)); have n6_ := Aside0.mk ((by rw [hg]; exact Nat.ne_of_gt (blk_lt (g := gb170) (o := .cells #[.int .i64 a0_0, .int .i64 a0_1, .slice A0_2 l0_2.length c0_2, .int .i64 a0_3, .int .u32 a0_4] 37 (0, 0)) (by (with_reducible repeat (first | refine blk_drewN ?_ _ | refine blk_drew ?_ | refine blk_alloc ?_ _)); exact BK170.out)) : gb171 ≠ gb170)); clear BK170; clear HB; have BK170 := n0_; have HB := n1_; have BK171 := n2_; have GW171 := n3_; have GE171 := n4_; have NB170_171 := n5_; have NB171_170 := n6_; clear n0_ n1_ n2_ n3_ n4_ n5_ n6_; clear hb hbox hg) | ((with_reducible refine gate_dst (N := 4) rfl ?_); refine box_event ?hg (N := 4) ?hd (cs := #[.int .i64 0, .int .i64 0, .slice none 0 0, .int .i64 0, .int .u32 0]) (t := 37) ?hr ?_; (case hd => rfl); (case hg => rfl); (case hr => first | (go_simp; done) | (go_simp; rfl)); intro gb172 hg w5 hbox hb; have n0_ := Aside0.mk (blk_below (g := gb170) (o := .cells #[.int .i64 a0_0, .int .i64 a0_1, .slice A0_2 l0_2.length c0_2, .int .i64 a0_3, .int .u32 a0_4] 37 (0, 0)) (by (with_reducible repeat (first | refine blk_drewN ?_ _ | refine blk_drew ?_ | refine blk_alloc ?_ _)); exact BK170.out) hb); have n1_ := Aside0.mk (blk_below (g := gb171) (o := .cells #[.int .i64 a1_0, .int .i64 a1_1, .slice A1_2 l1_2.length c1_2, .int .i64 a1_3, .int .u32 a1_4] 37 (0, 0)) (by (with_reducible repeat (first | refine blk_drewN ?_ _ | refine blk_drew ?_ | refine blk_alloc ?_ _)); exact BK171.out) hb); have n2_ := Aside0.mk (below_step (by repeat (first | (with_reducible first | exact HB.out | apply below_alloc | apply pw_below_drewN | apply below_drew1 | refine below_set ?_ GE170.out | refine below_set ?_ GE171.out) | exact HB.out)) hb); have n3_ := Aside0.mk (hbox); have n4_ := Aside0.mk ((by rw [hg]; exact (below_size (by repeat (first | (with_reducible first | exact HB.out | apply below_alloc | apply pw_below_drewN | apply below_drew1 | refine below_set ?_ GE170.out | refine below_set ?_ GE171.out) | exact HB.out))) : w.heap.size ≤ gb172)); have n5_ := Aside0.mk ((by rw [hg]; exact (below_size (by repeat (first | (with_reducible first | exact HB.out | apply below_alloc | apply pw_below_drewN | apply below_drew1 | refine below_set ?_ GE170.out | refine below_set ?_ GE171.out) | exact HB.out))) : w.heap.size ≤ gb172)); have n6_ := Aside0.mk ((by rw [hg]; exact Nat.ne_of_lt (blk_lt (g := gb170) (o := .cells #[.int .i64 a0_0, .int .i64 a0_1, .slice A0_2 l0_2.length c0_2, .int .i64 a0_3, .int .u32 a0_4] 37 (0, 0)) (by (with_reducible repeat (first | refine blk_drewN ?_ _ | refine blk_drew ?_ | refine blk_alloc ?_ _)); exact BK170.out)) : gb170 ≠ gb172)); have n7_ := Aside0.mk ((by rw [hg]; exact Nat.ne_of_gt (blk_lt (g := gb170) (o := .cells #[.int .i64 a0_0, .int .i64 a0_1, .slice A0_2 l0_2.length c0_2, .int .i64 a0_3, .int .u32 a0_4] 37 (0, 0)) (by (with_reducible repeat (first | refine blk_drewN ?_ _ | refine blk_drew ?_ | refine blk_alloc ?_ _)); exact BK170.out)) : gb172 ≠ gb170)); have n8_ := Aside0.mk ((by rw [hg]; exact Nat.ne_of_lt (blk_lt (g := gb171) (o := .cells #[.int .i64 a1_0, .int .i64 a1_1, .slice A1_2 l1_2.length c1_2, .int .i64 a1_3, .int .u32 a1_4] 37 (0, 0)) (by (with_reducible repeat (first | refine blk_drewN ?_ _ | refine blk_drew ?_ | refine blk_alloc ?_ _)); exact BK171.out)) : gb171 ≠ gb172)); have n9_ := Aside0.mk ((by rw [hg]; exact Nat.ne_of_gt (blk_lt (g := gb171) (o := .cells #[.int .i64 a1_0, .int .i64 a1_1, .slice A1_2 l1_2.length c1_2, .int .i64 a1_3, .int .u32 a1_4] 37 (0, 0)) (by (with_reducible repeat (first | refine blk_drewN ?_ _ | refine blk_drew ?_ | refine blk_alloc ?_ _)); exact BK171.out)) : gb172 ≠ gb171)); clear BK170; clear BK171; clear HB; have BK170 := n0_; have BK171 := n1_; have HB := n2_; have BK172 := n3_; have GW172 := n4_; have GE172 := n5_; have NB170_172 := n6_; have NB172_170 := n7_; have NB171_172 := n8_; have NB172_171 := n9_; clear n0_ n1_ n2_ n3_ n4_ n5_ n6_ n7_ n8_ n9_; clear hb hbox hg; have hnb6 := NB170_171.out; have hnc6 := NB171_170.out; have hnb7 := NB170_172.out; have hnc7 := NB172_170.out; have hcz8_0 : w5.cell? ⟨gb170, 0, none⟩ = some (.int .i64 a0_0) := (blk_cell BK170.out 0).trans rfl; have hcz8_1 : w5.cell? ⟨gb170, 1, none⟩ = some (.int .i64 a0_1) := (blk_cell BK170.out 1).trans rfl; have hcz8_2 : w5.cell? ⟨gb170, 2, none⟩ = some (.slice A0_2 l0_2.length c0_2) := (blk_cell BK170.out 2).trans rfl; have hcz8_3 : w5.cell? ⟨gb170, 3, none⟩ = some (.int .i64 a0_3) := (blk_cell BK170.out 3).trans rfl; have hcz8_4 : w5.cell? ⟨gb170, 4, none⟩ = some (.int .u32 a0_4) := (blk_cell BK170.out 4).trans rfl; have hfz8_0 := blk_frozen BK170.out 0; have hfz8_1 := blk_frozen BK170.out 1; have hfz8_2 := blk_frozen BK170.out 2; have hfz8_3 := blk_frozen BK170.out 3; have hfz8_4 := blk_frozen BK170.out 4; have hnb9 := NB171_172.out; have hnc9 := NB172_171.out; have hcz10_0 : w5.cell? ⟨gb171, 0, none⟩ = some (.int .i64 a1_0) := (blk_cell BK171.out 0).trans rfl; have hcz10_1 : w5.cell? ⟨gb171, 1, none⟩ = some (.int .i64 a1_1) := (blk_cell BK171.out 1).trans rfl; have hcz10_2 : w5.cell? ⟨gb171, 2, none⟩ = some (.slice A1_2 l1_2.length c1_2) := (blk_cell BK171.out 2).trans rfl; have hcz10_3 : w5.cell? ⟨gb171, 3, none⟩ = some (.int .i64 a1_3) := (blk_cell BK171.out 3).trans rfl; have hcz10_4 : w5.cell? ⟨gb171, 4, none⟩ = some (.int .u32 a1_4) := (blk_cell BK171.out 4).trans rfl; have hfz10_0 := blk_frozen BK171.out 0; have hfz10_1 := blk_frozen BK171.out 1; have hfz10_2 := blk_frozen BK171.out 2; have hfz10_3 := blk_frozen BK171.out 3; have hfz10_4 := blk_frozen BK171.out 4) | ((with_reducible refine gate_dst (N := 5) rfl ?_); refine box_event ?hg (N := 5) ?hd (cs := #[.int .i64 0, .int .i64 0, .slice none 0 0, .int .i64 0, .int .u32 0]) (t := 37) ?hr ?_; (case hd => rfl); (case hg => rfl); (case hr => first | (go_simp; done) | (go_simp; rfl)); intro gb173 hg w11 hbox hb; have n0_ := Aside0.mk (blk_below (g := gb170) (o := .cells #[.int .i64 a0_0, .int .i64 a0_1, .slice A0_2 l0_2.length c0_2, .int .i64 a0_3, .int .u32 a0_4] 37 (0, 0)) (by (with_reducible repeat (first | refine blk_drewN ?_ _ | refine blk_drew ?_ | refine blk_alloc ?_ _)); exact BK170.out) hb); have n1_ := Aside0.mk (blk_below (g := gb171) (o := .cells #[.int .i64 a1_0, .int .i64 a1_1, .slice A1_2 l1_2.length c1_2, .int .i64 a1_3, .int .u32 a1_4] 37 (0, 0)) (by (with_reducible repeat (first | refine blk_drewN ?_ _ | refine blk_drew ?_ | refine blk_alloc ?_ _)); exact BK171.out) hb); have n2_ := Aside0.mk (blk_below (g := gb172) (o := .cells #[.int .i64 0, .int .i64 0, .slice none 0 0, .int .i64 0, .int .u32 0] 37 (0, 0)) (by (with_reducible repeat (first | refine blk_drewN ?_ _ | refine blk_drew ?_ | refine blk_alloc ?_ _)); exact BK172.out) hb); have n3_ := Aside0.mk (below_step (by repeat (first | (with_reducible first | exact HB.out | apply below_alloc | apply pw_below_drewN | apply below_drew1 | refine below_set ?_ GE170.out | refine below_set ?_ GE171.out | refine below_set ?_ GE172.out) | exact HB.out)) hb); have n4_ := Aside0.mk (hbox); have n5_ := Aside0.mk ((by rw [hg]; exact (below_size (by repeat (first | (with_reducible first | exact HB.out | apply below_alloc | apply pw_below_drewN | apply below_drew1 | refine below_set ?_ GE170.out | refine below_set ?_ GE171.out | refine below_set ?_ GE172.out) | exact HB.out))) : w.heap.size ≤ gb173)); have n6_ := Aside0.mk ((by rw [hg]; exact (below_size (by repeat (first | (with_reducible first | exact HB.out | apply below_alloc | apply pw_below_drewN | apply below_drew1 | refine below_set ?_ GE170.out | refine below_set ?_ GE171.out | refine below_set ?_ GE172.out) | exact HB.out))) : w.heap.size ≤ gb173)); have n7_ := Aside0.mk ((by rw [hg]; exact Nat.ne_of_lt (blk_lt (g := gb170) (o := .cells #[.int .i64 a0_0, .int .i64 a0_1, .slice A0_2 l0_2.length c0_2, .int .i64 a0_3, .int .u32 a0_4] 37 (0, 0)) (by (with_reducible repeat (first | refine blk_drewN ?_ _ | refine blk_drew ?_ | refine blk_alloc ?_ _)); exact BK170.out)) : gb170 ≠ gb173)); have n8_ := Aside0.mk ((by rw [hg]; exact Nat.ne_of_gt (blk_lt (g := gb170) (o := .cells #[.int .i64 a0_0, .int .i64 a0_1, .slice A0_2 l0_2.length c0_2, .int .i64 a0_3, .int .u32 a0_4] 37 (0, 0)) (by (with_reducible repeat (first | refine blk_drewN ?_ _ | refine blk_drew ?_ | refine blk_alloc ?_ _)); exact BK170.out)) : gb173 ≠ gb170)); have n9_ := Aside0.mk ((by rw [hg]; exact Nat.ne_of_lt (blk_lt (g := gb171) (o := .cells #[.int .i64 a1_0, .int .i64 a1_1, .slice A1_2 l1_2.length c1_2, .int .i64 a1_3, .int .u32 a1_4] 37 (0, 0)) (by (with_reducible repeat (first | refine blk_drewN ?_ _ | refine blk_drew ?_ | refine blk_alloc ?_ _)); exact BK171.out)) : gb171 ≠ gb173)); have n10_ := Aside0.mk ((by rw [hg]; exact Nat.ne_of_gt (blk_lt (g := gb171) (o := .cells #[.int .i64 a1_0, .int .i64 a1_1, .slice A1_2 l1_2.length c1_2, .int .i64 a1_3, .int .u32 a1_4] 37 (0, 0)) (by (with_reducible repeat (first | refine blk_drewN ?_ _ | refine blk_drew ?_ | refine blk_alloc ?_ _)); exact BK171.out)) : gb173 ≠ gb171)); have n11_ := Aside0.mk ((by rw [hg]; exact Nat.ne_of_lt (blk_lt (g := gb172) (o := .cells #[.int .i64 0, .int .i64 0, .slice none 0 0, .int .i64 0, .int .u32 0] 37 (0, 0)) (by (with_reducible repeat (first | refine blk_drewN ?_ _ | refine blk_drew ?_ | refine blk_alloc ?_ _)); exact BK172.out)) : gb172 ≠ gb173)); have n12_ := Aside0.mk ((by rw [hg]; exact Nat.ne_of_gt (blk_lt (g := gb172) (o := .cells #[.int .i64 0, .int .i64 0, .slice none 0 0, .int .i64 0, .int .u32 0] 37 (0, 0)) (by (with_reducible repeat (first | refine blk_drewN ?_ _ | refine blk_drew ?_ | refine blk_alloc ?_ _)); exact BK172.out)) : gb173 ≠ gb172)); clear BK170; clear BK171; clear BK172; clear HB; have BK170 := n0_; have BK171 := n1_; have BK172 := n2_; have HB := n3_; have BK173 := n4_; have GW173 := n5_; have GE173 := n6_; have NB170_173 := n7_; have NB173_170 := n8_; have NB171_173 := n9_; have NB173_171 := n10_; have NB172_173 := n11_; have NB173_172 := n12_; clear n0_ n1_ n2_ n3_ n4_ n5_ n6_ n7_ n8_ n9_ n10_ n11_ n12_; clear hb hbox hg; have hnb12 := NB173_170.out; have hnc12 := NB170_173.out; have hnb13 := NB173_171.out; have hnc13 := NB171_173.out; have hnb14 := NB173_172.out; have hnc14 := NB172_173.out; have hcz15_0 : w11.cell? ⟨gb173, 0, none⟩ = some (.int .i64 0) := (blk_cell BK173.out 0).trans rfl; have hcz15_1 : w11.cell? ⟨gb173, 1, none⟩ = some (.int .i64 0) := (blk_cell BK173.out 1).trans rfl; have hcz15_2 : w11.cell? ⟨gb173, 2, none⟩ = some (.slice none 0 0) := (blk_cell BK173.out 2).trans rfl; have hcz15_3 : w11.cell? ⟨gb173, 3, none⟩ = some (.int .i64 0) := (blk_cell BK173.out 3).trans rfl; have hcz15_4 : w11.cell? ⟨gb173, 4, none⟩ = some (.int .u32 0) := (blk_cell BK173.out 4).trans rfl; have hfz15_0 := blk_frozen BK173.out 0; have hfz15_1 := blk_frozen BK173.out 1; have hfz15_2 := blk_frozen BK173.out 2; have hfz15_3 := blk_frozen BK173.out 3; have hfz15_4 := blk_frozen BK173.out 4; have hcz16_0 : w11.cell? ⟨gb170, 0, none⟩ = some (.int .i64 a0_0) := (blk_cell BK170.out 0).trans rfl; have hcz16_1 : w11.cell? ⟨gb170, 1, none⟩ = some (.int .i64 a0_1) := (blk_cell BK170.out 1).trans rfl; have hcz16_2 : w11.cell? ⟨gb170, 2, none⟩ = some (.slice A0_2 l0_2.length c0_2) := (blk_cell BK170.out 2).trans rfl; have hcz16_3 : w11.cell? ⟨gb170, 3, none⟩ = some (.int .i64 a0_3) := (blk_cell BK170.out 3).trans rfl; have hcz16_4 : w11.cell? ⟨gb170, 4, none⟩ = some (.int .u32 a0_4) := (blk_cell BK170.out 4).trans rfl; have hfz16_0 := blk_frozen BK170.out 0; have hfz16_1 := blk_frozen BK170.out 1; have hfz16_2 := blk_frozen BK170.out 2; have hfz16_3 := blk_frozen BK170.out 3; have hfz16_4 := blk_frozen BK170.out 4))
  go_loopg [28] k (fun kq v28 w' => ∃ (x28_1 : Int) (x174002_1 : List (List Int)) (x174004_1 : Int) (u174002 : Value), v28 = .int .i64 x28_1 ∧ Aside0 (machine_Pairs.l0 kq a0_0 x28_1 a0_0 a0_1 l0_2 a0_3 a0_4 a1_0 a1_1 l1_2 a1_3 a1_4 (wrap64 (a0_0 * a1_0)) a0_1 x174002_1 (wrap64 ((wrap64 (a0_3 * a1_0)) + a1_3)) x174004_1 = some (r1, r2, r3, r4, r5)) ∧ Aside0 (kq ≤ k) ∧ Aside0 (Kd.S (Kd.slice 3 (Kd.int .i64)) 28 w' w.heap.size (fun _ => True) u174002 x174002_1) ∧ Aside0 (w'.heap[gb170]? = some (.cells #[.int .i64 a0_0, .int .i64 a0_1, (.slice A0_2 l0_2.length c0_2), .int .i64 a0_3, .int .u32 a0_4] 37 (0, 0))) ∧ Aside0 (w'.heap[gb171]? = some (.cells #[.int .i64 a1_0, .int .i64 a1_1, (.slice A1_2 l1_2.length c1_2), .int .i64 a1_3, .int .u32 a1_4] 37 (0, 0))) ∧ Aside0 (w'.heap[gb172]? = some (.cells #[.int .i64 0, .int .i64 0, (.slice none 0 0), .int .i64 0, .int .u32 0] 37 (0, 0))) ∧ Aside0 (w'.heap[gb173]? = some (.cells #[.int .i64 (wrap64 (a0_0 * a1_0)), .int .i64 a0_1, u174002, .int .i64 (wrap64 ((wrap64 (a0_3 * a1_0)) + a1_3)), .int .u32 x174004_1] 37 (0, 0))) ∧ Aside0 (Below w.heap.size w w'))
  case atStart => exact ⟨(0), (([] : List (List Int))), (0), (.slice none 0 0), (by first | rfl | (simp; done) | (simp [*]; done)), H', ⟨Nat.le_refl _⟩, ⟨by first | exact Kd.S_nil _ _ _ _ _ | exact Kd.N_nil _ _ _ _ _ | exact Kd.V_nil _ _ _ _ _ | exact Kd.Q_nil _ _ _ _ _ | exact Kd.R_nil _ _ _ _ _⟩, ⟨by (with_reducible repeat (first | refine blk_drewN ?_ _ | refine blk_drew ?_ | refine blk_alloc ?_ _)); refine blk_far ?_ NB170_173.out _; (with_reducible repeat (first | refine blk_drewN ?_ _ | refine blk_drew ?_ | refine blk_alloc ?_ _)); refine blk_far ?_ NB170_173.out _; (with_reducible repeat (first | refine blk_drewN ?_ _ | refine blk_drew ?_ | refine blk_alloc ?_ _)); refine blk_far ?_ NB170_173.out _; (with_reducible repeat (first | refine blk_drewN ?_ _ | refine blk_drew ?_ | refine blk_alloc ?_ _)); refine blk_far ?_ NB170_173.out _; (with_reducible repeat (first | refine blk_drewN ?_ _ | refine blk_drew ?_ | refine blk_alloc ?_ _)); refine blk_far ?_ NB170_173.out _; (with_reducible repeat (first | refine blk_drewN ?_ _ | refine blk_drew ?_ | refine blk_alloc ?_ _)); exact BK170.out⟩, ⟨by (with_reducible repeat (first | refine blk_drewN ?_ _ | refine blk_drew ?_ | refine blk_alloc ?_ _)); refine blk_far ?_ NB171_173.out _; (with_reducible repeat (first | refine blk_drewN ?_ _ | refine blk_drew ?_ | refine blk_alloc ?_ _)); refine blk_far ?_ NB171_173.out _; (with_reducible repeat (first | refine blk_drewN ?_ _ | refine blk_drew ?_ | refine blk_alloc ?_ _)); refine blk_far ?_ NB171_173.out _; (with_reducible repeat (first | refine blk_drewN ?_ _ | refine blk_drew ?_ | refine blk_alloc ?_ _)); refine blk_far ?_ NB171_173.out _; (with_reducible repeat (first | refine blk_drewN ?_ _ | refine blk_drew ?_ | refine blk_alloc ?_ _)); refine blk_far ?_ NB171_173.out _; (with_reducible repeat (first | refine blk_drewN ?_ _ | refine blk_drew ?_ | refine blk_alloc ?_ _)); exact BK171.out⟩, ⟨by (with_reducible repeat (first | refine blk_drewN ?_ _ | refine blk_drew ?_ | refine blk_alloc ?_ _)); refine blk_far ?_ NB172_173.out _; (with_reducible repeat (first | refine blk_drewN ?_ _ | refine blk_drew ?_ | refine blk_alloc ?_ _)); refine blk_far ?_ NB172_173.out _; (with_reducible repeat (first | refine blk_drewN ?_ _ | refine blk_drew ?_ | refine blk_alloc ?_ _)); refine blk_far ?_ NB172_173.out _; (with_reducible repeat (first | refine blk_drewN ?_ _ | refine blk_drew ?_ | refine blk_alloc ?_ _)); refine blk_far ?_ NB172_173.out _; (with_reducible repeat (first | refine blk_drewN ?_ _ | refine blk_drew ?_ | refine blk_alloc ?_ _)); refine blk_far ?_ NB172_173.out _; (with_reducible repeat (first | refine blk_drewN ?_ _ | refine blk_drew ?_ | refine blk_alloc ?_ _)); exact BK172.out⟩, ⟨by (with_reducible repeat (first | refine blk_drewN ?_ _ | refine blk_drew ?_ | refine blk_alloc ?_ _)); refine blk_put (cs := #[.int .i64 (wrap64 (a0_0 * a1_0)), .int .i64 a0_1, .slice none 0 0, .int .i64 (wrap64 ((wrap64 (a0_3 * a1_0)) + a1_3)), .int .u32 0]) ?_ 4 _ rfl; (with_reducible repeat (first | refine blk_drewN ?_ _ | refine blk_drew ?_ | refine blk_alloc ?_ _)); refine blk_put (cs := #[.int .i64 (wrap64 (a0_0 * a1_0)), .int .i64 a0_1, .slice none 0 0, .int .i64 0, .int .u32 0]) ?_ 3 _ rfl; (with_reducible repeat (first | refine blk_drewN ?_ _ | refine blk_drew ?_ | refine blk_alloc ?_ _)); refine blk_put (cs := #[.int .i64 (wrap64 (a0_0 * a1_0)), .int .i64 a0_1, .slice none 0 0, .int .i64 0, .int .u32 0]) ?_ 2 _ rfl; (with_reducible repeat (first | refine blk_drewN ?_ _ | refine blk_drew ?_ | refine blk_alloc ?_ _)); refine blk_put (cs := #[.int .i64 (wrap64 (a0_0 * a1_0)), .int .i64 0, .slice none 0 0, .int .i64 0, .int .u32 0]) ?_ 1 _ rfl; (with_reducible repeat (first | refine blk_drewN ?_ _ | refine blk_drew ?_ | refine blk_alloc ?_ _)); refine blk_put (cs := #[.int .i64 0, .int .i64 0, .slice none 0 0, .int .i64 0, .int .u32 0]) ?_ 0 _ rfl; (with_reducible repeat (first | refine blk_drewN ?_ _ | refine blk_drew ?_ | refine blk_alloc ?_ _)); exact BK173.out⟩, ⟨by repeat (first | (with_reducible first | exact HB.out | apply below_alloc | apply pw_below_drewN | apply below_drew1 | refine below_set ?_ GE170.out | refine below_set ?_ GE171.out | refine below_set ?_ GE172.out | refine below_set ?_ GE173.out) | exact HB.out)⟩⟩
  case round =>
    clear H'
    try clear c1
    try clear p2
    try clear c5
    try clear c6
    try clear p6
    try clear c7
    try clear c9
    try clear c12
    try clear c13
    try clear c14
    try clear hcz10_0
    try clear hcz10_1
    try clear hcz10_2
    try clear hcz10_3
    try clear hcz10_4
    try clear hcz15_0
    try clear hcz15_1
    try clear hcz15_2
    try clear hcz15_3
    try clear hcz15_4
    try clear hcz16_0
    try clear hcz16_1
    try clear hcz16_2
    try clear hcz16_3
    try clear hcz16_4
    try clear hcz8_0
    try clear hcz8_1
    try clear hcz8_2
    try clear hcz8_3
    try clear hcz8_4
    try clear hfz10_0
    try clear hfz10_1
    try clear hfz10_2
    try clear hfz10_3
    try clear hfz10_4
    try clear hfz15_0
    try clear hfz15_1
    try clear hfz15_2
    try clear hfz15_3
    try clear hfz15_4
    try clear hfz16_0
    try clear hfz16_1
    try clear hfz16_2
    try clear hfz16_3
    try clear hfz16_4
    try clear hfz8_0
    try clear hfz8_1
    try clear hfz8_2
    try clear hfz8_3
    try clear hfz8_4
    obtain ⟨x28_1, x174002_1, x174004_1, u174002, rfl, HA, HK1, HO_174002, BK170, BK171, BK172, BK173, HB⟩ := hrel
    cases gk with
    | zero => exact absurd HA.out (by simp [machine_Pairs.l0])
    | succ k1 =>
      have H := HA.out
      clear HA
      simp only [machine_Pairs.l0] at H
      by_cases c17 : x28_1 < a0_0
      · rw [if_pos c17] at H
        have c17b0 : decide (x28_1 < a0_0) = true := decide_eq_true c17
        clear c17
        have H' := Aside0.mk H
        clear H
        have hnb18 := NB171_170.out
        have hnc18 := NB170_171.out
        have hnb19 := NB171_172.out
        have hnc19 := NB172_171.out
        have hnb20 := NB171_173.out
        have hnc20 := NB173_171.out
        have hcz21_0 : wr.cell? ⟨gb171, 0, none⟩ = some (.int .i64 a1_0) := (blk_cell BK171.out 0).trans rfl
        have hcz21_1 : wr.cell? ⟨gb171, 1, none⟩ = some (.int .i64 a1_1) := (blk_cell BK171.out 1).trans rfl
        have hcz21_2 : wr.cell? ⟨gb171, 2, none⟩ = some (.slice A1_2 l1_2.length c1_2) := (blk_cell BK171.out 2).trans rfl
        have hcz21_3 : wr.cell? ⟨gb171, 3, none⟩ = some (.int .i64 a1_3) := (blk_cell BK171.out 3).trans rfl
        have hcz21_4 : wr.cell? ⟨gb171, 4, none⟩ = some (.int .u32 a1_4) := (blk_cell BK171.out 4).trans rfl
        have hfz21_0 := blk_frozen BK171.out 0
        have hfz21_1 := blk_frozen BK171.out 1
        have hfz21_2 := blk_frozen BK171.out 2
        have hfz21_3 := blk_frozen BK171.out 3
        have hfz21_4 := blk_frozen BK171.out 4
        go_wp2
        go_loopg [33] k1 (fun kq v33 w' => ∃ (x33_2 : Int) (x174002_2 : List (List Int)) (x174004_2 : Int) (u174002 : Value), v33 = .int .i64 x33_2 ∧ Aside0 (machine_Pairs.l1 kq x28_1 a0_0 x28_1 a1_0 x33_2 a0_0 a0_1 l0_2 a0_3 a0_4 a1_0 a1_1 l1_2 a1_3 a1_4 (wrap64 (a0_0 * a1_0)) a0_1 x174002_2 (wrap64 ((wrap64 (a0_3 * a1_0)) + a1_3)) x174004_2 = some (r1, r2, r3, r4, r5)) ∧ Aside0 (kq ≤ k1) ∧ Aside0 (Kd.S (Kd.slice 3 (Kd.int .i64)) 28 w' w.heap.size (fun _ => True) u174002 x174002_2) ∧ Aside0 (w'.heap[gb170]? = some (.cells #[.int .i64 a0_0, .int .i64 a0_1, (.slice A0_2 l0_2.length c0_2), .int .i64 a0_3, .int .u32 a0_4] 37 (0, 0))) ∧ Aside0 (w'.heap[gb171]? = some (.cells #[.int .i64 a1_0, .int .i64 a1_1, (.slice A1_2 l1_2.length c1_2), .int .i64 a1_3, .int .u32 a1_4] 37 (0, 0))) ∧ Aside0 (w'.heap[gb172]? = some (.cells #[.int .i64 0, .int .i64 0, (.slice none 0 0), .int .i64 0, .int .u32 0] 37 (0, 0))) ∧ Aside0 (w'.heap[gb173]? = some (.cells #[.int .i64 (wrap64 (a0_0 * a1_0)), .int .i64 a0_1, u174002, .int .i64 (wrap64 ((wrap64 (a0_3 * a1_0)) + a1_3)), .int .u32 x174004_2] 37 (0, 0))) ∧ Aside0 (Below w.heap.size w w'))
        case atStart => exact ⟨(0), (x174002_1), (x174004_1), (u174002), (by first | rfl | (simp; done) | (simp [*]; done)), H', ⟨Nat.le_refl _⟩, ⟨by (with_reducible repeat (first | apply Kd.S_alloc | apply Kd.S_drewN | apply Kd.S_drew)); exact HO_174002.out⟩, ⟨by (with_reducible repeat (first | refine blk_drewN ?_ _ | refine blk_drew ?_ | refine blk_alloc ?_ _)); exact BK170.out⟩, ⟨by (with_reducible repeat (first | refine blk_drewN ?_ _ | refine blk_drew ?_ | refine blk_alloc ?_ _)); exact BK171.out⟩, ⟨by (with_reducible repeat (first | refine blk_drewN ?_ _ | refine blk_drew ?_ | refine blk_alloc ?_ _)); exact BK172.out⟩, ⟨by (with_reducible repeat (first | refine blk_drewN ?_ _ | refine blk_drew ?_ | refine blk_alloc ?_ _)); exact BK173.out⟩, ⟨by repeat (first | (with_reducible first | exact HB.out | apply below_alloc | apply pw_below_drewN | apply below_drew1 | refine below_set ?_ GE170.out | refine below_set ?_ GE171.out | refine below_set ?_ GE172.out | refine below_set ?_ GE173.out) | exact HB.out)⟩⟩
        case round =>
          clear H'
          try clear c1
          try clear c2
          try clear p2
          try clear c5
          try clear c6
          try clear p6
          try clear c7
          try clear c9
          try clear c12
          try clear c13
          try clear c14
          try clear c17
          try clear c17b0
          try clear c18
          try clear c19
          try clear c20
          try clear hcz10_0
          try clear hcz10_1
          try clear hcz10_2
          try clear hcz10_3
          try clear hcz10_4
          try clear hcz15_0
          try clear hcz15_1
          try clear hcz15_2
          try clear hcz15_3
          try clear hcz15_4
          try clear hcz16_0
          try clear hcz16_1
          try clear hcz16_2
          try clear hcz16_3
          try clear hcz16_4
          try clear hcz21_0
          try clear hcz21_1
          try clear hcz21_2
          try clear hcz21_3
          try clear hcz21_4
          try clear hcz8_0
          try clear hcz8_1
          try clear hcz8_2
          try clear hcz8_3
          try clear hcz8_4
          try clear hfz10_0
          try clear hfz10_1
          try clear hfz10_2
          try clear hfz10_3
          try clear hfz10_4
          try clear hfz15_0
          try clear hfz15_1
          try clear hfz15_2
          try clear hfz15_3
          try clear hfz15_4
          try clear hfz16_0
          try clear hfz16_1
          try clear hfz16_2
          try clear hfz16_3
          try clear hfz16_4
          try clear hfz21_0
          try clear hfz21_1
          try clear hfz21_2
          try clear hfz21_3
          try clear hfz21_4
          try clear hfz8_0
          try clear hfz8_1
          try clear hfz8_2
          try clear hfz8_3
          try clear hfz8_4
          try clear p2
          try clear p6
          obtain ⟨x33_2, x174002_2, x174004_2, u174002, rfl, HA, HK2, HO_174002, BK170, BK171, BK172, BK173, HB⟩ := hrel
          cases gk with
          | zero => exact absurd HA.out (by simp [machine_Pairs.l1])
          | succ k2 =>
            have H := HA.out
            clear HA
            simp only [machine_Pairs.l1] at H
            by_cases c22 : x33_2 < a1_0
            · rw [if_pos c22] at H
              have c22b0 : decide (x33_2 < a1_0) = true := decide_eq_true c22
              clear c22
              have H' := Aside0.mk H
              clear H
              have hnb23 := NB170_171.out
              have hnc23 := NB171_170.out
              have hnb24 := NB170_172.out
              have hnc24 := NB172_170.out
              have hnb25 := NB170_173.out
              have hnc25 := NB173_170.out
              have hcz26_0 : wr.cell? ⟨gb170, 0, none⟩ = some (.int .i64 a0_0) := (blk_cell BK170.out 0).trans rfl
              have hcz26_1 : wr.cell? ⟨gb170, 1, none⟩ = some (.int .i64 a0_1) := (blk_cell BK170.out 1).trans rfl
              have hcz26_2 : wr.cell? ⟨gb170, 2, none⟩ = some (.slice A0_2 l0_2.length c0_2) := (blk_cell BK170.out 2).trans rfl
              have hcz26_3 : wr.cell? ⟨gb170, 3, none⟩ = some (.int .i64 a0_3) := (blk_cell BK170.out 3).trans rfl
              have hcz26_4 : wr.cell? ⟨gb170, 4, none⟩ = some (.int .u32 a0_4) := (blk_cell BK170.out 4).trans rfl
              have hfz26_0 := blk_frozen BK170.out 0
              have hfz26_1 := blk_frozen BK170.out 1
              have hfz26_2 := blk_frozen BK170.out 2
              have hfz26_3 := blk_frozen BK170.out 3
              have hfz26_4 := blk_frozen BK170.out 4
              go_wp2
              go_loopg [8, 38] k2 (fun kq v8 v38 w' => ∃ (x8_3 : List Int) (x38_3 : Int), v38 = .int .i64 x38_3 ∧ Aside0 (machine_Pairs.l2 kq x28_1 x33_2 x8_3 a0_0 x28_1 a1_0 x33_2 a0_1 x38_3 a0_0 a0_1 l0_2 a0_3 a0_4 a1_0 a1_1 l1_2 a1_3 a1_4 (wrap64 (a0_0 * a1_0)) a0_1 x174002_2 (wrap64 ((wrap64 (a0_3 * a1_0)) + a1_3)) x174004_2 = some (r1, r2, r3, r4, r5)) ∧ Aside0 (kq ≤ k2) ∧ Aside0 (Kd.R (Kd.int .i64) 3 w' w.heap.size (fun _ => True) v8 x8_3) ∧ Aside0 (Kd.S (Kd.slice 3 (Kd.int .i64)) 28 w' w.heap.size (fun k_ => some k_ ≠ (v8 : Value).ownBlock) u174002 x174002_2) ∧ Aside0 (w'.heap[gb170]? = some (.cells #[.int .i64 a0_0, .int .i64 a0_1, (.slice A0_2 l0_2.length c0_2), .int .i64 a0_3, .int .u32 a0_4] 37 (0, 0))) ∧ Aside0 (w'.heap[gb171]? = some (.cells #[.int .i64 a1_0, .int .i64 a1_1, (.slice A1_2 l1_2.length c1_2), .int .i64 a1_3, .int .u32 a1_4] 37 (0, 0))) ∧ Aside0 (w'.heap[gb172]? = some (.cells #[.int .i64 0, .int .i64 0, (.slice none 0 0), .int .i64 0, .int .u32 0] 37 (0, 0))) ∧ Aside0 (w'.heap[gb173]? = some (.cells #[.int .i64 (wrap64 (a0_0 * a1_0)), .int .i64 a0_1, u174002, .int .i64 (wrap64 ((wrap64 (a0_3 * a1_0)) + a1_3)), .int .u32 x174004_2] 37 (0, 0))) ∧ Aside0 (Below w.heap.size w w'))
              case atStart => exact ⟨(([] : List Int)), (0), (by first | rfl | (simp; done) | (simp [*]; done)), H', ⟨Nat.le_refl _⟩, ⟨by first | exact Kd.R_nil _ _ _ _ _ | exact Kd.N_nil _ _ _ _ _ | exact Kd.V_nil _ _ _ _ _ | exact Kd.Q_nil _ _ _ _ _ | exact Kd.S_nil _ _ _ _ _⟩, ⟨by (with_reducible repeat (first | apply Kd.S_alloc | apply Kd.S_drewN | apply Kd.S_drew)); exact Kd.S_mono HO_174002.out (fun _ hk => (by simp [Value.ownBlock]))⟩, ⟨by (with_reducible repeat (first | refine blk_drewN ?_ _ | refine blk_drew ?_ | refine blk_alloc ?_ _)); exact BK170.out⟩, ⟨by (with_reducible repeat (first | refine blk_drewN ?_ _ | refine blk_drew ?_ | refine blk_alloc ?_ _)); exact BK171.out⟩, ⟨by (with_reducible repeat (first | refine blk_drewN ?_ _ | refine blk_drew ?_ | refine blk_alloc ?_ _)); exact BK172.out⟩, ⟨by (with_reducible repeat (first | refine blk_drewN ?_ _ | refine blk_drew ?_ | refine blk_alloc ?_ _)); exact BK173.out⟩, ⟨by repeat (first | (with_reducible first | exact HB.out | apply below_alloc | apply pw_below_drewN | apply below_drew1 | refine below_set ?_ GE170.out | refine below_set ?_ GE171.out | refine below_set ?_ GE172.out | refine below_set ?_ GE173.out) | exact HB.out)⟩⟩
              case round =>
                clear H'
                try clear c1
                try clear c2
                try clear p2
                try clear c5
                try clear c6
                try clear p6
                try clear c7
                try clear c9
                try clear c12
                try clear c13
                try clear c14
                try clear c17
                try clear c17b0
                try clear c18
                try clear c19
                try clear c20
                try clear c22
                try clear c22b0
                try clear c23
                try clear c24
                try clear c25
                try clear hcz10_0
                try clear hcz10_1
                try clear hcz10_2
                try clear hcz10_3
                try clear hcz10_4
                try clear hcz15_0
                try clear hcz15_1
                try clear hcz15_2
                try clear hcz15_3
                try clear hcz15_4
                try clear hcz16_0
                try clear hcz16_1
                try clear hcz16_2
                try clear hcz16_3
                try clear hcz16_4
                try clear hcz21_0
                try clear hcz21_1
                try clear hcz21_2
                try clear hcz21_3
                try clear hcz21_4
                try clear hcz26_0
                try clear hcz26_1
                try clear hcz26_2
                try clear hcz26_3
                try clear hcz26_4
                try clear hcz8_0
                try clear hcz8_1
                try clear hcz8_2
                try clear hcz8_3
                try clear hcz8_4
                try clear hfz10_0
                try clear hfz10_1
                try clear hfz10_2
                try clear hfz10_3
                try clear hfz10_4
                try clear hfz15_0
                try clear hfz15_1
                try clear hfz15_2
                try clear hfz15_3
                try clear hfz15_4
                try clear hfz16_0
                try clear hfz16_1
                try clear hfz16_2
                try clear hfz16_3
                try clear hfz16_4
                try clear hfz21_0
                try clear hfz21_1
                try clear hfz21_2
                try clear hfz21_3
                try clear hfz21_4
                try clear hfz26_0
                try clear hfz26_1
                try clear hfz26_2
                try clear hfz26_3
                try clear hfz26_4
                try clear hfz8_0
                try clear hfz8_1
                try clear hfz8_2
                try clear hfz8_3
                try clear hfz8_4
                try clear p2
                try clear p6
                obtain ⟨x8_3, x38_3, rfl, HA, HK3, HO_8, HO_174002, BK170, BK171, BK172, BK173, HB⟩ := hrel
                cases gk with
                | zero => exact absurd HA.out (by simp [machine_Pairs.l2])
                | succ k3 =>
                  have H := HA.out
                  clear HA
                  simp only [machine_Pairs.l2] at H
                  by_cases c27 : x38_3 < a0_1
                  · rw [if_pos c27] at H
                    have c27b0 : decide (x38_3 < a0_1) = true := decide_eq_true c27
                    clear c27
                    by_cases c28 : 0 ≤ x28_1
                    · rw [if_pos c28] at H
                      have c28b0 : decide (0 ≤ x28_1) = true := decide_eq_true c28
                      clear c28
                      by_cases c29 : x28_1 < (l0_2.length : Int)
                      · rw [if_pos c29] at H
                        have c29b0 : decide (x28_1 < (l0_2.length : Int)) = true := decide_eq_true c29
                        clear c29
                        by_cases c30 : 0 ≤ x38_3
                        · rw [if_pos c30] at H
                          have c30b0 : decide (0 ≤ x38_3) = true := decide_eq_true c30
                          clear c30
                          by_cases c31 : x38_3 < ((rd_L1 l0_2 x28_1).length : Int)
                          · rw [if_pos c31] at H
                            have c31b0 : decide (x38_3 < ((rd_L1 l0_2 x28_1).length : Int)) = true := decide_eq_true c31
                            clear c31
                            by_cases c32 : 0 ≤ x33_2
                            · rw [if_pos c32] at H
                              have c32b0 : decide (0 ≤ x33_2) = true := decide_eq_true c32
                              clear c32
                              by_cases c33 : x33_2 < (l1_2.length : Int)
                              · rw [if_pos c33] at H
                                have c33b0 : decide (x33_2 < (l1_2.length : Int)) = true := decide_eq_true c33
                                clear c33
                                by_cases c34 : x38_3 < ((rd_L1 l1_2 x33_2).length : Int)
                                · rw [if_pos c34] at H
                                  have c34b0 : decide (x38_3 < ((rd_L1 l1_2 x33_2).length : Int)) = true := decide_eq_true c34
                                  clear c34
                                  by_cases c35 : x8_3.length < 17592186044416
                                  · rw [if_pos c35] at H
                                    have LMc35 := Aside0.mk c35
                                    clear c35
                                    obtain ⟨y178, hy178⟩ : ∃ y_ : List Int, y_ = (x8_3 ++ [wrap64 ((wrap64 ((rd (rd_L1 l0_2 x28_1) x38_3) * a1_0)) + (rd (rd_L1 l1_2 x33_2) x38_3))]) := ⟨_, rfl⟩
                                    replace H : (machine_Pairs.l2 k3 x28_1 x33_2 y178 a0_0 x28_1 a1_0 x33_2 a0_1 (wrap64 (x38_3 + 1)) a0_0 a0_1 l0_2 a0_3 a0_4 a1_0 a1_1 l1_2 a1_3 a1_4 (wrap64 (a0_0 * a1_0)) a0_1 x174002_2 (wrap64 ((wrap64 (a0_3 * a1_0)) + a1_3)) x174004_2) = some (r1, r2, r3, r4, r5) := by first | (rw [hy178]; with_reducible exact H) | (have H2_ := (Option.bind_some _ _).symm.trans H; rw [hy178]; with_reducible exact H2_) | (have H2_ := (Option.bind_some _ _).symm.trans H; with_reducible exact H2_) | with_reducible exact H | (rw [hy178]; exact H) | exact H
                                    have Ny178 := Aside0.mk hy178
                                    clear hy178
                                    have H' := Aside0.mk H
                                    clear H
                                    try go_wp2
                                    have n0_ := Aside0.mk (Kd.R_drew HO_8.out)
                                    have n1_ := Aside0.mk (Kd.S_drew HO_174002.out)
                                    have n2_ := Aside0.mk (blk_drew BK170.out)
                                    have n3_ := Aside0.mk (blk_drew BK171.out)
                                    have n4_ := Aside0.mk (blk_drew BK172.out)
                                    have n5_ := Aside0.mk (blk_drew BK173.out)
                                    have n6_ := Aside0.mk (below_drew1 HB.out)
                                    clear HO_8
                                    clear HO_174002
                                    clear BK170
                                    clear BK171
                                    clear BK172
                                    clear BK173
                                    clear HB
                                    have HO_8 := n0_
                                    have HO_174002 := n1_
                                    have BK170 := n2_
                                    have BK171 := n3_
                                    have BK172 := n4_
                                    have BK173 := n5_
                                    have HB := n6_
                                    clear n0_ n1_ n2_ n3_ n4_ n5_ n6_
                                    have p174 : 0 ≤ (x28_1 : Int) := of_decide_eq_true (by first | (with_reducible assumption) | assumption)
                                    have q174 : x28_1 < (l0_2.length : Int) := of_decide_eq_true (by first | (with_reducible assumption) | assumption)
                                    obtain ⟨ad174, A174_0, c174_0, e174, hx174_0, hl174_0, hi174_0⟩ := at_L1 HR0_2.out x28_1 p174 q174
                                    have hw174_0 := hx174_0
                                    cases e174
                                    replace hx174_0 := (HB.out.cell (World.block_lt_of_cell? w _ hx174_0)).trans hx174_0
                                    have HR174_0 := Aside0.mk hi174_0
                                    have HC174_0 := Aside0.mk hl174_0
                                    clear hi174_0 hl174_0
                                    replace p174 := eq_true p174
                                    replace q174 := eq_true q174
                                    have p175 : 0 ≤ (x38_3 : Int) := of_decide_eq_true (by first | (with_reducible assumption) | assumption)
                                    have q175 : x38_3 < ((rd_L1 l0_2 x28_1).length : Int) := of_decide_eq_true (by first | (with_reducible assumption) | assumption)
                                    obtain ⟨ad175, e175, hx175_0⟩ := Kd.at_int HR174_0.out x38_3 p175 q175
                                    have hw175_0 := hx175_0
                                    cases e175
                                    replace hx175_0 := (HB.out.cell (World.block_lt_of_cell? w _ hx175_0)).trans hx175_0
                                    replace p175 := eq_true p175
                                    replace q175 := eq_true q175
                                    have p176 : 0 ≤ (x33_2 : Int) := of_decide_eq_true (by first | (with_reducible assumption) | assumption)
                                    have q176 : x33_2 < (l1_2.length : Int) := of_decide_eq_true (by first | (with_reducible assumption) | assumption)
                                    obtain ⟨ad176, A176_0, c176_0, e176, hx176_0, hl176_0, hi176_0⟩ := at_L1 HR1_2.out x33_2 p176 q176
                                    have hw176_0 := hx176_0
                                    cases e176
                                    replace hx176_0 := (HB.out.cell (World.block_lt_of_cell? w _ hx176_0)).trans hx176_0
                                    have HR176_0 := Aside0.mk hi176_0
                                    have HC176_0 := Aside0.mk hl176_0
                                    clear hi176_0 hl176_0
                                    replace p176 := eq_true p176
                                    replace q176 := eq_true q176
                                    have p177 : 0 ≤ (x38_3 : Int) := of_decide_eq_true (by first | (with_reducible assumption) | assumption)
                                    have q177 : x38_3 < ((rd_L1 l1_2 x33_2).length : Int) := of_decide_eq_true (by first | (with_reducible assumption) | assumption)
                                    obtain ⟨ad177, e177, hx177_0⟩ := Kd.at_int HR176_0.out x38_3 p177 q177
                                    have hw177_0 := hx177_0
                                    cases e177
                                    replace hx177_0 := (HB.out.cell (World.block_lt_of_cell? w _ hx177_0)).trans hx177_0
                                    replace p177 := eq_true p177
                                    replace q177 := eq_true q177
                                    refine start_ (n := 24) (S := fun w' => w'.cell? ⟨gb170, 0, none⟩ = some (.int .i64 a0_0) ∧ w'.cell? ⟨gb170, 1, none⟩ = some (.int .i64 a0_1) ∧ w'.cell? ⟨gb170, 2, none⟩ = some (.slice (some ad174) l0_2.length c0_2) ∧ w'.cell? ⟨gb170, 3, none⟩ = some (.int .i64 a0_3) ∧ w'.cell? ⟨gb170, 4, none⟩ = some (.int .u32 a0_4) ∧ w'.cell? ⟨gb171, 0, none⟩ = some (.int .i64 a1_0) ∧ w'.cell? ⟨gb171, 1, none⟩ = some (.int .i64 a1_1) ∧ w'.cell? ⟨gb171, 2, none⟩ = some (.slice (some ad176) l1_2.length c1_2) ∧ w'.cell? ⟨gb171, 3, none⟩ = some (.int .i64 a1_3) ∧ w'.cell? ⟨gb171, 4, none⟩ = some (.int .u32 a1_4) ∧ w'.cell? (ad174.add (x28_1).toNat) = some (.slice (some ad175) (rd_L1 l0_2 x28_1).length c174_0) ∧ w'.cell? (ad175.add (x38_3).toNat) = some (.int .i64 (rd (rd_L1 l0_2 x28_1) x38_3)) ∧ w'.cell? (ad176.add (x33_2).toNat) = some (.slice (some ad177) (rd_L1 l1_2 x33_2).length c176_0) ∧ w'.cell? (ad177.add (x38_3).toNat) = some (.int .i64 (rd (rd_L1 l1_2 x33_2) x38_3))) (ds := []) #[false, false, false, false, false, false, false, false, false, false, false, false, false, false, false, false, false, false, false, false, false, false, false, false] (by kernel_rfl) rfl rfl ⟨(blk_cell BK170.out 0).trans rfl, (blk_cell BK170.out 1).trans rfl, (blk_cell BK170.out 2).trans rfl, (blk_cell BK170.out 3).trans rfl, (blk_cell BK170.out 4).trans rfl, (blk_cell BK171.out 0).trans rfl, (blk_cell BK171.out 1).trans rfl, (blk_cell BK171.out 2).trans rfl, (blk_cell BK171.out 3).trans rfl, (blk_cell BK171.out 4).trans rfl, ((HB.out.cell (World.block_lt_of_cell? w _ hw174_0)).trans hw174_0), ((HB.out.cell (World.block_lt_of_cell? w _ hw175_0)).trans hw175_0), ((HB.out.cell (World.block_lt_of_cell? w _ hw176_0)).trans hw176_0), ((HB.out.cell (World.block_lt_of_cell? w _ hw177_0)).trans hw177_0)⟩ (fun hHeld => ?_); refine with_tabW machine_Pairs.tab12 machine_Pairs.bits12 (fun HT_ HW_ => ?_)
                                    generalize wr.drew = w36 at HO_8 HO_174002 BK170 BK171 BK172 BK173 HB HR174_0 HR176_0 hx174_0 hx175_0 hx176_0 hx177_0 hHeld ⊢
                                    refine pure_ (i := 0) (N := some 41) (v := ?_) (a' := ?_) #[true, false, false, false, false, false, false, false, false, false, false, false, false, false, false, false, false, false, false, false, false, false, false, false] rfl rfl (any_of HT_.out (by kernel_rfl)) (fun _ _ _ h => h) (Or.inl ⟨by rfl, ?_⟩) ?_ ?_
                                    rotate_left
                                    · intro w'
                                      go_simp
                                      with_reducible rfl
                                    rotate_left
                                    · simp only [Act.put, List.setIfInBounds_toArray, List.set_cons_zero, List.set_cons_succ, i64_w, i32_w]
                                      rfl
                                    refine pure_ (i := 1) (N := some 42) (v := ?_) (a' := ?_) #[true, true, false, false, false, false, false, false, false, false, false, false, false, false, false, false, false, false, false, false, false, false, false, false] rfl rfl (any_of HT_.out (by kernel_rfl)) (fun _ _ _ h => h) (Or.inl ⟨by rfl, ?_⟩) ?_ ?_
                                    rotate_left
                                    · intro w'
                                      go_simp
                                      with_reducible rfl
                                    rotate_left
                                    · simp only [Act.put, List.setIfInBounds_toArray, List.set_cons_zero, List.set_cons_succ, i64_w, i32_w]
                                      rfl
                                    refine pure_ (i := 3) (N := some 44) (v := ?_) (a' := ?_) #[true, true, false, true, false, false, false, false, false, false, false, false, false, false, false, false, false, false, false, false, false, false, false, false] rfl rfl (any_of HT_.out (by kernel_rfl)) (fun _ _ _ h => h) (Or.inl ⟨by rfl, ?_⟩) ?_ ?_
                                    rotate_left
                                    · intro w'
                                      go_simp
                                      with_reducible rfl
                                    rotate_left
                                    · simp only [Act.put, List.setIfInBounds_toArray, List.set_cons_zero, List.set_cons_succ, i64_w, i32_w]
                                      rfl
                                    refine pure_ (i := 6) (N := some 47) (v := ?_) (a' := ?_) #[true, true, false, true, false, false, true, false, false, false, false, false, false, false, false, false, false, false, false, false, false, false, false, false] rfl rfl (any_of HT_.out (by kernel_rfl)) (fun _ _ _ h => h) (Or.inl ⟨by rfl, ?_⟩) ?_ ?_
                                    rotate_left
                                    · intro w'
                                      go_simp
                                      with_reducible rfl
                                    rotate_left
                                    · simp only [Act.put, List.setIfInBounds_toArray, List.set_cons_zero, List.set_cons_succ, i64_w, i32_w]
                                      rfl
                                    refine pure_ (i := 9) (N := some 50) (v := ?_) (a' := ?_) #[true, true, false, true, false, false, true, false, false, true, false, false, false, false, false, false, false, false, false, false, false, false, false, false] rfl rfl (any_of HT_.out (by kernel_rfl)) (fun _ _ _ h => h) (Or.inl ⟨by rfl, ?_⟩) ?_ ?_
                                    rotate_left
                                    · intro w'
                                      go_simp
                                      with_reducible rfl
                                    rotate_left
                                    · simp only [Act.put, List.setIfInBounds_toArray, List.set_cons_zero, List.set_cons_succ, i64_w, i32_w]
                                      rfl
                                    refine pure_ (i := 12) (N := some 53) (v := ?_) (a' := ?_) #[true, true, false, true, false, false, true, false, false, true, false, false, true, false, false, false, false, false, false, false, false, false, false, false] rfl rfl (any_of HT_.out (by kernel_rfl)) (fun _ _ _ h => h) (Or.inl ⟨by rfl, ?_⟩) ?_ ?_
                                    rotate_left
                                    · intro w'
                                      go_simp
                                      with_reducible rfl
                                    rotate_left
                                    · simp only [Act.put, List.setIfInBounds_toArray, List.set_cons_zero, List.set_cons_succ, i64_w, i32_w]
                                      rfl
                                    refine pure_ (i := 14) (N := some 55) (v := ?_) (a' := ?_) #[true, true, false, true, false, false, true, false, false, true, false, false, true, false, true, false, false, false, false, false, false, false, false, false] rfl rfl (any_of HT_.out (by kernel_rfl)) (fun _ _ _ h => h) (Or.inl ⟨by rfl, ?_⟩) ?_ ?_
                                    rotate_left
                                    · intro w'
                                      go_simp
                                      with_reducible rfl
                                    rotate_left
                                    · simp only [Act.put, List.setIfInBounds_toArray, List.set_cons_zero, List.set_cons_succ, i64_w, i32_w]
                                      rfl
                                    refine pure_ (i := 17) (N := some 58) (v := ?_) (a' := ?_) #[true, true, false, true, false, false, true, false, false, true, false, false, true, false, true, false, false, true, false, false, false, false, false, false] rfl rfl (any_of HT_.out (by kernel_rfl)) (fun _ _ _ h => h) (Or.inl ⟨by rfl, ?_⟩) ?_ ?_
                                    rotate_left
                                    · intro w'
                                      go_simp
                                      with_reducible rfl
                                    rotate_left
                                    · simp only [Act.put, List.setIfInBounds_toArray, List.set_cons_zero, List.set_cons_succ, i64_w, i32_w]
                                      rfl
                                    refine take_ (i := 2) (N := some 43) (v := ?_) (a' := ?_) #[true, true, true, true, false, false, true, false, false, true, false, false, true, false, true, false, false, true, false, false, false, false, false, false] rfl rfl (take_ofW HT_.out HW_.out (by kernel_rfl)) (fun _ _ _ h => h) (Or.inl ⟨by rfl, ?_⟩) hHeld ?_ ?_
                                    rotate_left
                                    · rintro w' ⟨s0, s1, s2, s3, s4, s5, s6, s7, s8, s9, s10, s11, s12, s13⟩
                                      go_simp
                                      with_reducible rfl
                                    rotate_left
                                    · simp only [Act.put, List.setIfInBounds_toArray, List.set_cons_zero, List.set_cons_succ, i64_w, i32_w]
                                      rfl
                                    refine pure_ (i := 4) (N := some 45) (v := ?_) (a' := ?_) #[true, true, true, true, true, false, true, false, false, true, false, false, true, false, true, false, false, true, false, false, false, false, false, false] rfl rfl (any_of HT_.out (by kernel_rfl)) (fun _ _ _ h => h) (Or.inl ⟨by rfl, ?_⟩) ?_ ?_
                                    rotate_left
                                    · intro w'
                                      go_simp
                                      with_reducible rfl
                                    rotate_left
                                    · simp only [Act.put, List.setIfInBounds_toArray, List.set_cons_zero, List.set_cons_succ, i64_w, i32_w]
                                      rfl
                                    refine take_ (i := 5) (N := some 46) (v := ?_) (a' := ?_) #[true, true, true, true, true, true, true, false, false, true, false, false, true, false, true, false, false, true, false, false, false, false, false, false] rfl rfl (take_ofW HT_.out HW_.out (by kernel_rfl)) (fun _ _ _ h => h) (Or.inl ⟨by rfl, ?_⟩) hHeld ?_ ?_
                                    rotate_left
                                    · rintro w' ⟨s0, s1, s2, s3, s4, s5, s6, s7, s8, s9, s10, s11, s12, s13⟩
                                      go_simp
                                      with_reducible rfl
                                    rotate_left
                                    · simp only [Act.put, List.setIfInBounds_toArray, List.set_cons_zero, List.set_cons_succ, i64_w, i32_w]
                                      rfl
                                    refine pure_ (i := 7) (N := some 48) (v := ?_) (a' := ?_) #[true, true, true, true, true, true, true, true, false, true, false, false, true, false, true, false, false, true, false, false, false, false, false, false] rfl rfl (any_of HT_.out (by kernel_rfl)) (fun _ _ _ h => h) (Or.inl ⟨by rfl, ?_⟩) ?_ ?_
                                    rotate_left
                                    · intro w'
                                      go_simp
                                      with_reducible rfl
                                    rotate_left
                                    · simp only [Act.put, List.setIfInBounds_toArray, List.set_cons_zero, List.set_cons_succ, i64_w, i32_w]
                                      rfl
                                    refine take_ (i := 8) (N := some 49) (v := ?_) (a' := ?_) #[true, true, true, true, true, true, true, true, true, true, false, false, true, false, true, false, false, true, false, false, false, false, false, false] rfl rfl (take_ofW HT_.out HW_.out (by kernel_rfl)) (fun _ _ _ h => h) (Or.inl ⟨by rfl, ?_⟩) hHeld ?_ ?_
                                    rotate_left
                                    · rintro w' ⟨s0, s1, s2, s3, s4, s5, s6, s7, s8, s9, s10, s11, s12, s13⟩
                                      go_simp
                                      with_reducible rfl
                                    rotate_left
                                    · simp only [Act.put, List.setIfInBounds_toArray, List.set_cons_zero, List.set_cons_succ, i64_w, i32_w]
                                      rfl
                                    refine take_ (i := 10) (N := some 51) (v := ?_) (a' := ?_) #[true, true, true, true, true, true, true, true, true, true, true, false, true, false, true, false, false, true, false, false, false, false, false, false] rfl rfl (take_ofW HT_.out HW_.out (by kernel_rfl)) (fun _ _ _ h => h) (Or.inl ⟨by rfl, ?_⟩) hHeld ?_ ?_
                                    rotate_left
                                    · rintro w' ⟨s0, s1, s2, s3, s4, s5, s6, s7, s8, s9, s10, s11, s12, s13⟩
                                      go_simp
                                      with_reducible rfl
                                    rotate_left
                                    · simp only [Act.put, List.setIfInBounds_toArray, List.set_cons_zero, List.set_cons_succ, i64_w, i32_w]
                                      rfl
                                    refine pure_ (i := 11) (N := some 52) (v := ?_) (a' := ?_) #[true, true, true, true, true, true, true, true, true, true, true, true, true, false, true, false, false, true, false, false, false, false, false, false] rfl rfl (any_of HT_.out (by kernel_rfl)) (fun _ _ _ h => h) (Or.inl ⟨by rfl, ?_⟩) ?_ ?_
                                    rotate_left
                                    · intro w'
                                      go_simp
                                      with_reducible rfl
                                    rotate_left
                                    · simp only [Act.put, List.setIfInBounds_toArray, List.set_cons_zero, List.set_cons_succ, i64_w, i32_w]
                                      rfl
                                    refine take_ (i := 13) (N := some 54) (v := ?_) (a' := ?_) #[true, true, true, true, true, true, true, true, true, true, true, true, true, true, true, false, false, true, false, false, false, false, false, false] rfl rfl (take_ofW HT_.out HW_.out (by kernel_rfl)) (fun _ _ _ h => h) (Or.inl ⟨by rfl, ?_⟩) hHeld ?_ ?_
                                    rotate_left
                                    · rintro w' ⟨s0, s1, s2, s3, s4, s5, s6, s7, s8, s9, s10, s11, s12, s13⟩
                                      go_simp
                                      with_reducible rfl
                                    rotate_left
                                    · simp only [Act.put, List.setIfInBounds_toArray, List.set_cons_zero, List.set_cons_succ, i64_w, i32_w]
                                      rfl
                                    refine pure_ (i := 15) (N := some 56) (v := ?_) (a' := ?_) #[true, true, true, true, true, true, true, true, true, true, true, true, true, true, true, true, false, true, false, false, false, false, false, false] rfl rfl (any_of HT_.out (by kernel_rfl)) (fun _ _ _ h => h) (Or.inl ⟨by rfl, ?_⟩) ?_ ?_
                                    rotate_left
                                    · intro w'
                                      go_simp
                                      with_reducible rfl
                                    rotate_left
                                    · simp only [Act.put, List.setIfInBounds_toArray, List.set_cons_zero, List.set_cons_succ, i64_w, i32_w]
                                      rfl
                                    refine take_ (i := 16) (N := some 57) (v := ?_) (a' := ?_) #[true, true, true, true, true, true, true, true, true, true, true, true, true, true, true, true, true, true, false, false, false, false, false, false] rfl rfl (take_ofW HT_.out HW_.out (by kernel_rfl)) (fun _ _ _ h => h) (Or.inl ⟨by rfl, ?_⟩) hHeld ?_ ?_
                                    rotate_left
                                    · rintro w' ⟨s0, s1, s2, s3, s4, s5, s6, s7, s8, s9, s10, s11, s12, s13⟩
                                      go_simp
                                      with_reducible rfl
                                    rotate_left
                                    · simp only [Act.put, List.setIfInBounds_toArray, List.set_cons_zero, List.set_cons_succ, i64_w, i32_w]
                                      rfl
                                    refine pure_ (i := 18) (N := some 59) (v := ?_) (a' := ?_) #[true, true, true, true, true, true, true, true, true, true, true, true, true, true, true, true, true, true, true, false, false, false, false, false] rfl rfl (any_of HT_.out (by kernel_rfl)) (fun _ _ _ h => h) (Or.inl ⟨by rfl, ?_⟩) ?_ ?_
                                    rotate_left
                                    · intro w'
                                      go_simp
                                      with_reducible rfl
                                    rotate_left
                                    · simp only [Act.put, List.setIfInBounds_toArray, List.set_cons_zero, List.set_cons_succ, i64_w, i32_w]
                                      rfl
                                    refine take_ (i := 19) (N := some 60) (v := ?_) (a' := ?_) #[true, true, true, true, true, true, true, true, true, true, true, true, true, true, true, true, true, true, true, true, false, false, false, false] rfl rfl (take_ofW HT_.out HW_.out (by kernel_rfl)) (fun _ _ _ h => h) (Or.inl ⟨by rfl, ?_⟩) hHeld ?_ ?_
                                    rotate_left
                                    · rintro w' ⟨s0, s1, s2, s3, s4, s5, s6, s7, s8, s9, s10, s11, s12, s13⟩
                                      go_simp
                                      with_reducible rfl
                                    rotate_left
                                    · simp only [Act.put, List.setIfInBounds_toArray, List.set_cons_zero, List.set_cons_succ, i64_w, i32_w]
                                      rfl
                                    refine pure_ (i := 20) (N := some 61) (v := ?_) (a' := ?_) #[true, true, true, true, true, true, true, true, true, true, true, true, true, true, true, true, true, true, true, true, true, false, false, false] rfl rfl (any_of HT_.out (by kernel_rfl)) (fun _ _ _ h => h) (Or.inl ⟨by rfl, ?_⟩) ?_ ?_
                                    rotate_left
                                    · intro w'
                                      go_simp
                                      with_reducible rfl
                                    rotate_left
                                    · simp only [Act.put, List.setIfInBounds_toArray, List.set_cons_zero, List.set_cons_succ, i64_w, i32_w]
                                      rfl
                                    refine one_ (i := 21) (N := some 62) #[true, true, true, true, true, true, true, true, true, true, true, true, true, true, true, true, true, true, true, true, true, true, false, false] rfl rfl (one_of HT_.out (by kernel_rfl)) (by decide) (fun K hK => ?_)
                                    refine value_ (w1 := ?_) (v := ?_) (by rfl) rfl ?_ ?_
                                    rotate_left 2
                                    · go_simp
                                      constructor
                                      · rfl
                                      · rfl
                                    refine hK.out _ _ ⟨(blk_cell (blk_alloc BK170.out _) 0).trans rfl, (blk_cell (blk_alloc BK170.out _) 1).trans rfl, (blk_cell (blk_alloc BK170.out _) 2).trans rfl, (blk_cell (blk_alloc BK170.out _) 3).trans rfl, (blk_cell (blk_alloc BK170.out _) 4).trans rfl, (blk_cell (blk_alloc BK171.out _) 0).trans rfl, (blk_cell (blk_alloc BK171.out _) 1).trans rfl, (blk_cell (blk_alloc BK171.out _) 2).trans rfl, (blk_cell (blk_alloc BK171.out _) 3).trans rfl, (blk_cell (blk_alloc BK171.out _) 4).trans rfl, (World.cell?_alloc_lt _ _ _ (World.block_lt_of_cell? _ _ (((HB.out.cell (World.block_lt_of_cell? w _ hw174_0)).trans hw174_0)))).trans (((HB.out.cell (World.block_lt_of_cell? w _ hw174_0)).trans hw174_0)), (World.cell?_alloc_lt _ _ _ (World.block_lt_of_cell? _ _ (((HB.out.cell (World.block_lt_of_cell? w _ hw175_0)).trans hw175_0)))).trans (((HB.out.cell (World.block_lt_of_cell? w _ hw175_0)).trans hw175_0)), (World.cell?_alloc_lt _ _ _ (World.block_lt_of_cell? _ _ (((HB.out.cell (World.block_lt_of_cell? w _ hw176_0)).trans hw176_0)))).trans (((HB.out.cell (World.block_lt_of_cell? w _ hw176_0)).trans hw176_0)), (World.cell?_alloc_lt _ _ _ (World.block_lt_of_cell? _ _ (((HB.out.cell (World.block_lt_of_cell? w _ hw177_0)).trans hw177_0)))).trans (((HB.out.cell (World.block_lt_of_cell? w _ hw177_0)).trans hw177_0))⟩ (fun hHeld => ?_)
                                    clear hK K
                                    refine norm_ (a' := ?_) ?_ ?_
                                    rotate_left
                                    · show Act.put _ (some 62) _ = _
                                      simp only [Act.put, List.setIfInBounds_toArray, List.set_cons_zero, List.set_cons_succ, i64_w, i32_w]
                                      rfl
                                    refine one_ (i := 22) (N := some 63) #[true, true, true, true, true, true, true, true, true, true, true, true, true, true, true, true, true, true, true, true, true, true, true, false] rfl rfl (one_of HT_.out (by kernel_rfl)) (by decide) (fun K hK => ?_)
                                    refine Kd.R_append_step (Kd.int .i64) (w0 := w) w.heap.size (by rfl) (.tmp 41) (.tmp 62) 28 3 (.int .i64 0) 8 rfl Try.underlying28 info3 rfl (by decide) (by omega) u8 x8_3 (wrap64 ((wrap64 ((rd (rd_L1 l0_2 x28_1) x38_3) * a1_0)) + (rd (rd_L1 l1_2 x33_2) x38_3))) [.int .i64 (wrap64 ((wrap64 ((rd (rd_L1 l0_2 x28_1) x38_3) * a1_0)) + (rd (rd_L1 l1_2 x33_2) x38_3)))] (fun _ => True) (fun _ => False) rfl rfl ?aP (fun _ hk => hk.elim) ?aF ?aO ?aB ?aS ?aL ?_
                                    (case aP => exact rfl)
                                    (case aB => exact (by repeat (first | (with_reducible first | exact HB.out | apply below_alloc | apply pw_below_drewN | apply below_drew1 | refine below_set ?_ GE170.out | refine below_set ?_ GE171.out | refine below_set ?_ GE172.out | refine below_set ?_ GE173.out) | exact HB.out)))
                                    (case aF => exact (fun _ _ => trivial))
                                    (case aO => exact (by (with_reducible repeat (first | apply Kd.R_alloc | apply Kd.R_drewN | apply Kd.R_drew)); exact HO_8.out))
                                    (case aS => exact (below_size (by repeat (first | (with_reducible first | exact HB.out | apply below_alloc | apply pw_below_drewN | apply below_drew1 | refine below_set ?_ GE170.out | refine below_set ?_ GE171.out | refine below_set ?_ GE172.out | refine below_set ?_ GE173.out) | exact HB.out))))
                                    (case aL => have := LMc35.out; omega)
                                    intro v179 w37 ho hb hg hat
                                    rw [← Ny178.out] at ho
                                    have n0_ := Aside0.mk (Kd.S_after (ok := (fun _ => True)) (by (with_reducible repeat (first | apply Kd.S_alloc | apply Kd.S_drewN | apply Kd.S_drew)); exact Kd.S_mono HO_174002.out (fun _ hk => ⟨trivial, hk⟩)) hg hat)
                                    have n1_ := Aside0.mk (blk_grown (g := gb170) (o := .cells #[.int .i64 a0_0, .int .i64 a0_1, .slice (some ad174) l0_2.length c0_2, .int .i64 a0_3, .int .u32 a0_4] 37 (0, 0)) (by (with_reducible repeat (first | refine blk_drewN ?_ _ | refine blk_drew ?_ | refine blk_alloc ?_ _)); exact BK170.out) hg (Kd.R_ne HO_8.out BK170.out (by decide)))
                                    have n2_ := Aside0.mk (blk_grown (g := gb171) (o := .cells #[.int .i64 a1_0, .int .i64 a1_1, .slice (some ad176) l1_2.length c1_2, .int .i64 a1_3, .int .u32 a1_4] 37 (0, 0)) (by (with_reducible repeat (first | refine blk_drewN ?_ _ | refine blk_drew ?_ | refine blk_alloc ?_ _)); exact BK171.out) hg (Kd.R_ne HO_8.out BK171.out (by decide)))
                                    have n3_ := Aside0.mk (blk_grown (g := gb172) (o := .cells #[.int .i64 0, .int .i64 0, .slice none 0 0, .int .i64 0, .int .u32 0] 37 (0, 0)) (by (with_reducible repeat (first | refine blk_drewN ?_ _ | refine blk_drew ?_ | refine blk_alloc ?_ _)); exact BK172.out) hg (Kd.R_ne HO_8.out BK172.out (by decide)))
                                    have n4_ := Aside0.mk (blk_grown (g := gb173) (o := .cells #[.int .i64 (wrap64 (a0_0 * a1_0)), .int .i64 a0_1, u174002, .int .i64 (wrap64 ((wrap64 (a0_3 * a1_0)) + a1_3)), .int .u32 x174004_2] 37 (0, 0)) (by (with_reducible repeat (first | refine blk_drewN ?_ _ | refine blk_drew ?_ | refine blk_alloc ?_ _)); exact BK173.out) hg (Kd.R_ne HO_8.out BK173.out (by decide)))
                                    have n5_ := Aside0.mk (hb)
                                    have n6_ := Aside0.mk (ho)
                                    clear HO_174002
                                    clear BK170
                                    clear BK171
                                    clear BK172
                                    clear BK173
                                    clear HB
                                    clear HO_8
                                    have HO_174002 := n0_
                                    have BK170 := n1_
                                    have BK171 := n2_
                                    have BK172 := n3_
                                    have BK173 := n4_
                                    have HB := n5_
                                    have HO180 := n6_
                                    clear n0_ n1_ n2_ n3_ n4_ n5_ n6_
                                    clear ho hb hg hat
                                    refine hK.out _ _ ⟨(blk_cell BK170.out 0).trans rfl, (blk_cell BK170.out 1).trans rfl, (blk_cell BK170.out 2).trans rfl, (blk_cell BK170.out 3).trans rfl, (blk_cell BK170.out 4).trans rfl, (blk_cell BK171.out 0).trans rfl, (blk_cell BK171.out 1).trans rfl, (blk_cell BK171.out 2).trans rfl, (blk_cell BK171.out 3).trans rfl, (blk_cell BK171.out 4).trans rfl, ((HB.out.cell (World.block_lt_of_cell? w _ hw174_0)).trans hw174_0), ((HB.out.cell (World.block_lt_of_cell? w _ hw175_0)).trans hw175_0), ((HB.out.cell (World.block_lt_of_cell? w _ hw176_0)).trans hw176_0), ((HB.out.cell (World.block_lt_of_cell? w _ hw177_0)).trans hw177_0)⟩ (fun hHeld => ?_)
                                    clear hK K
                                    refine norm_ (a' := ?_) ?_ ?_
                                    rotate_left
                                    · show Act.put _ (some 63) _ = _
                                      simp only [Act.put, List.setIfInBounds_toArray, List.set_cons_zero, List.set_cons_succ, i64_w, i32_w]
                                      rfl
                                    refine pure_ (i := 23) (N := some 8) (v := ?_) (a' := ?_) #[true, true, true, true, true, true, true, true, true, true, true, true, true, true, true, true, true, true, true, true, true, true, true, true] rfl rfl (any_of HT_.out (by kernel_rfl)) (fun _ _ _ h => h) (Or.inl ⟨by rfl, ?_⟩) ?_ ?_
                                    rotate_left
                                    · intro w'
                                      go_simp
                                      with_reducible rfl
                                    rotate_left
                                    · simp only [Act.put, List.setIfInBounds_toArray, List.set_cons_zero, List.set_cons_succ, i64_w, i32_w]
                                      rfl
                                    refine done_ (done_of HT_.out (by kernel_rfl)) ?_
                                    try go_wp2
                                    go_roundg k3
                                    case measure => have := HK1.out; have := HK2.out; have := HK3.out; omega
                                    case rel => exact ⟨(y178), (wrap64 (x38_3 + 1)), (by first | rfl | (simp; done) | (simp [*]; done)), H', ⟨by have := HK1.out; have := HK2.out; have := HK3.out; omega⟩, ⟨by (with_reducible repeat (first | apply Kd.R_alloc | apply Kd.R_drewN | apply Kd.R_drew)); exact HO180.out⟩, ⟨by (with_reducible repeat (first | apply Kd.S_alloc | apply Kd.S_drewN | apply Kd.S_drew)); exact Kd.S_mono HO_174002.out (fun _ hk => hk.2)⟩, ⟨by (with_reducible repeat (first | refine blk_drewN ?_ _ | refine blk_drew ?_ | refine blk_alloc ?_ _)); exact BK170.out⟩, ⟨by (with_reducible repeat (first | refine blk_drewN ?_ _ | refine blk_drew ?_ | refine blk_alloc ?_ _)); exact BK171.out⟩, ⟨by (with_reducible repeat (first | refine blk_drewN ?_ _ | refine blk_drew ?_ | refine blk_alloc ?_ _)); exact BK172.out⟩, ⟨by (with_reducible repeat (first | refine blk_drewN ?_ _ | refine blk_drew ?_ | refine blk_alloc ?_ _)); exact BK173.out⟩, ⟨by repeat (first | (with_reducible first | exact HB.out | apply below_alloc | apply pw_below_drewN | apply below_drew1 | refine below_set ?_ GE170.out | refine below_set ?_ GE171.out | refine below_set ?_ GE172.out | refine below_set ?_ GE173.out) | exact HB.out)⟩⟩
                                  · rw [if_neg c35] at H
                                    exact absurd H (by simp)
                                · rw [if_neg c34] at H
                                  exact absurd H (by simp)
                              · rw [if_neg c33] at H
                                exact absurd H (by simp)
                            · rw [if_neg c32] at H
                              exact absurd H (by simp)
                          · rw [if_neg c31] at H
                            exact absurd H (by simp)
                        · rw [if_neg c30] at H
                          exact absurd H (by simp)
                      · rw [if_neg c29] at H
                        exact absurd H (by simp)
                    · rw [if_neg c28] at H
                      exact absurd H (by simp)
                  · rw [if_neg c27] at H
                    have c27b0 : decide (x38_3 < a0_1) = false := decide_eq_false c27
                    clear c27
                    by_cases c38 : x174002_2.length < 5864062014805
                    · rw [if_pos c38] at H
                      have LMc38 := Aside0.mk c38
                      clear c38
                      obtain ⟨y181, hy181⟩ : ∃ y_ : List (List Int), y_ = (x174002_2 ++ [x8_3]) := ⟨_, rfl⟩
                      replace H : (if 0 ≤ x28_1 then (if (Go.bits .and .u32 (shr .u32 a0_4 x28_1) 1) = 1 then (if 0 ≤ x33_2 then (if (Go.bits .and .u32 (shr .u32 a1_4 x33_2) 1) = 1 then (if 0 ≤ (wrap64 ((wrap64 (x28_1 * a1_0)) + x33_2)) then (machine_Pairs.l1 k3 x28_1 a0_0 x28_1 a1_0 (wrap64 (x33_2 + 1)) a0_0 a0_1 l0_2 a0_3 a0_4 a1_0 a1_1 l1_2 a1_3 a1_4 (wrap64 (a0_0 * a1_0)) a0_1 y181 (wrap64 ((wrap64 (a0_3 * a1_0)) + a1_3)) (Go.bits .or .u32 x174004_2 (shl .u32 1 (wrap64 ((wrap64 (x28_1 * a1_0)) + x33_2))))) else (none)) else (machine_Pairs.l1 k3 x28_1 a0_0 x28_1 a1_0 (wrap64 (x33_2 + 1)) a0_0 a0_1 l0_2 a0_3 a0_4 a1_0 a1_1 l1_2 a1_3 a1_4 (wrap64 (a0_0 * a1_0)) a0_1 y181 (wrap64 ((wrap64 (a0_3 * a1_0)) + a1_3)) x174004_2)) else (none)) else (machine_Pairs.l1 k3 x28_1 a0_0 x28_1 a1_0 (wrap64 (x33_2 + 1)) a0_0 a0_1 l0_2 a0_3 a0_4 a1_0 a1_1 l1_2 a1_3 a1_4 (wrap64 (a0_0 * a1_0)) a0_1 y181 (wrap64 ((wrap64 (a0_3 * a1_0)) + a1_3)) x174004_2)) else (none)) = some (r1, r2, r3, r4, r5) := by first | (rw [hy181]; with_reducible exact H) | (have H2_ := (Option.bind_some _ _).symm.trans H; rw [hy181]; with_reducible exact H2_) | (have H2_ := (Option.bind_some _ _).symm.trans H; with_reducible exact H2_) | with_reducible exact H | (rw [hy181]; exact H) | exact H
                      have Ny181 := Aside0.mk hy181
                      clear hy181
                      by_cases c39 : 0 ≤ x28_1
                      · rw [if_pos c39] at H
                        have c39b0 := eq_true c39
                        have c39b1 : decide (0 ≤ x28_1) = true := decide_eq_true c39
                        clear c39
                        obtain ⟨ji40, hji40⟩ : ∃ j_ : Int, (shr .u32 a0_4 x28_1) = j_ := ⟨_, rfl⟩
                        replace H : (if (Go.bits .and .u32 (ji40) 1) = 1 then (if 0 ≤ x33_2 then (if (Go.bits .and .u32 (shr .u32 a1_4 x33_2) 1) = 1 then (if 0 ≤ (wrap64 ((wrap64 (x28_1 * a1_0)) + x33_2)) then (machine_Pairs.l1 k3 x28_1 a0_0 x28_1 a1_0 (wrap64 (x33_2 + 1)) a0_0 a0_1 l0_2 a0_3 a0_4 a1_0 a1_1 l1_2 a1_3 a1_4 (wrap64 (a0_0 * a1_0)) a0_1 y181 (wrap64 ((wrap64 (a0_3 * a1_0)) + a1_3)) (Go.bits .or .u32 x174004_2 (shl .u32 1 (wrap64 ((wrap64 (x28_1 * a1_0)) + x33_2))))) else (none)) else (machine_Pairs.l1 k3 x28_1 a0_0 x28_1 a1_0 (wrap64 (x33_2 + 1)) a0_0 a0_1 l0_2 a0_3 a0_4 a1_0 a1_1 l1_2 a1_3 a1_4 (wrap64 (a0_0 * a1_0)) a0_1 y181 (wrap64 ((wrap64 (a0_3 * a1_0)) + a1_3)) x174004_2)) else (none)) else (machine_Pairs.l1 k3 x28_1 a0_0 x28_1 a1_0 (wrap64 (x33_2 + 1)) a0_0 a0_1 l0_2 a0_3 a0_4 a1_0 a1_1 l1_2 a1_3 a1_4 (wrap64 (a0_0 * a1_0)) a0_1 y181 (wrap64 ((wrap64 (a0_3 * a1_0)) + a1_3)) x174004_2)) = some (r1, r2, r3, r4, r5) := by first | (rw [hji40] at H; exact H) | (simp only [hji40] at H ⊢; exact H)
                        have hji40_ : (a0_4 / 2 ^ min x28_1.toNat 32) = ji40 := hji40
                        have hji40z : x28_1 ≤ 32 → (a0_4 / 2 ^ x28_1.toNat) = ji40 := shr_small hji40
                        by_cases c41 : (Go.bits .and .u32 (ji40) 1) = 1
                        · rw [if_pos c41] at H
                          have c41b0 : ((Go.bits .and .u32 (ji40) 1) == 1) = true := beq_iff_eq.mpr c41
                          have c41b1 : ((Go.bits .and .u32 (ji40) 1) != 1) = false := bne_eq_false_iff_eq.mpr c41
                          clear c41
                          by_cases c42 : 0 ≤ x33_2
                          · rw [if_pos c42] at H
                            have c42b0 := eq_true c42
                            have c42b1 : decide (0 ≤ x33_2) = true := decide_eq_true c42
                            clear c42
                            obtain ⟨ji43, hji43⟩ : ∃ j_ : Int, (shr .u32 a1_4 x33_2) = j_ := ⟨_, rfl⟩
                            replace H : (if (Go.bits .and .u32 (ji43) 1) = 1 then (if 0 ≤ (wrap64 ((wrap64 (x28_1 * a1_0)) + x33_2)) then (machine_Pairs.l1 k3 x28_1 a0_0 x28_1 a1_0 (wrap64 (x33_2 + 1)) a0_0 a0_1 l0_2 a0_3 a0_4 a1_0 a1_1 l1_2 a1_3 a1_4 (wrap64 (a0_0 * a1_0)) a0_1 y181 (wrap64 ((wrap64 (a0_3 * a1_0)) + a1_3)) (Go.bits .or .u32 x174004_2 (shl .u32 1 (wrap64 ((wrap64 (x28_1 * a1_0)) + x33_2))))) else (none)) else (machine_Pairs.l1 k3 x28_1 a0_0 x28_1 a1_0 (wrap64 (x33_2 + 1)) a0_0 a0_1 l0_2 a0_3 a0_4 a1_0 a1_1 l1_2 a1_3 a1_4 (wrap64 (a0_0 * a1_0)) a0_1 y181 (wrap64 ((wrap64 (a0_3 * a1_0)) + a1_3)) x174004_2)) = some (r1, r2, r3, r4, r5) := by first | (rw [hji43] at H; exact H) | (simp only [hji43] at H ⊢; exact H)
                            have hji43_ : (a1_4 / 2 ^ min x33_2.toNat 32) = ji43 := hji43
                            have hji43z : x33_2 ≤ 32 → (a1_4 / 2 ^ x33_2.toNat) = ji43 := shr_small hji43
                            by_cases c44 : (Go.bits .and .u32 (ji43) 1) = 1
                            · rw [if_pos c44] at H
                              have c44b0 : ((Go.bits .and .u32 (ji43) 1) == 1) = true := beq_iff_eq.mpr c44
                              have c44b1 : ((Go.bits .and .u32 (ji43) 1) != 1) = false := bne_eq_false_iff_eq.mpr c44
                              clear c44
                              obtain ⟨ji45, hji45⟩ : ∃ j_ : Int, (wrap64 ((wrap64 (x28_1 * a1_0)) + x33_2)) = j_ := ⟨_, rfl⟩
                              replace H : (if 0 ≤ (ji45) then (machine_Pairs.l1 k3 x28_1 a0_0 x28_1 a1_0 (wrap64 (x33_2 + 1)) a0_0 a0_1 l0_2 a0_3 a0_4 a1_0 a1_1 l1_2 a1_3 a1_4 (wrap64 (a0_0 * a1_0)) a0_1 y181 (wrap64 ((wrap64 (a0_3 * a1_0)) + a1_3)) (Go.bits .or .u32 x174004_2 (shl .u32 1 (ji45)))) else (none)) = some (r1, r2, r3, r4, r5) := by first | (rw [hji45] at H; exact H) | (simp only [hji45] at H ⊢; exact H)
                              have hji45w : (IntKind.i64.wrap ((wrap64 (x28_1 * a1_0)) + x33_2)) = ji45 := (i64_w _).trans hji45
                              by_cases c46 : 0 ≤ (ji45)
                              · rw [if_pos c46] at H
                                have c46b0 := eq_true c46
                                have c46b1 : decide (0 ≤ (ji45)) = true := decide_eq_true c46
                                clear c46
                                obtain ⟨ji47, hji47⟩ : ∃ j_ : Int, (shl .u32 1 (ji45)) = j_ := ⟨_, rfl⟩
                                replace H : (machine_Pairs.l1 k3 x28_1 a0_0 x28_1 a1_0 (wrap64 (x33_2 + 1)) a0_0 a0_1 l0_2 a0_3 a0_4 a1_0 a1_1 l1_2 a1_3 a1_4 (wrap64 (a0_0 * a1_0)) a0_1 y181 (wrap64 ((wrap64 (a0_3 * a1_0)) + a1_3)) (Go.bits .or .u32 x174004_2 (ji47))) = some (r1, r2, r3, r4, r5) := by first | (rw [hji47] at H; exact H) | (simp only [hji47] at H ⊢; exact H)
                                have hji47_ : (IntKind.u32.wrap (1 * 2 ^ min (ji45).toNat 32)) = ji47 := hji47
                                have hji47z : (ji45) ≤ 32 → (IntKind.u32.wrap (1 * 2 ^ (ji45).toNat)) = ji47 := shl_small hji47
                                have hji47u : (IntKind.u32.wrap (2 ^ min (ji45).toNat 32)) = ji47 := by have h_ := hji47_; rw [Int.one_mul] at h_; exact h_
                                have hji47v : (ji45) ≤ 32 → (IntKind.u32.wrap (2 ^ (ji45).toNat)) = ji47 := fun hle_ => by have h_ := hji47z hle_; rw [Int.one_mul] at h_; exact h_
                                have H' := Aside0.mk H
                                clear H
                                have hnb48 := NB173_170.out
                                have hnc48 := NB170_173.out
                                have hnb49 := NB173_171.out
                                have hnc49 := NB171_173.out
                                have hnb50 := NB173_172.out
                                have hnc50 := NB172_173.out
                                have hcz51_0 : wr.cell? ⟨gb173, 0, none⟩ = some (.int .i64 (wrap64 (a0_0 * a1_0))) := (blk_cell BK173.out 0).trans rfl
                                have hcz51_1 : wr.cell? ⟨gb173, 1, none⟩ = some (.int .i64 a0_1) := (blk_cell BK173.out 1).trans rfl
                                have hcz51_2 : wr.cell? ⟨gb173, 2, none⟩ = some (u174002) := (blk_cell BK173.out 2).trans rfl
                                have hcz51_3 : wr.cell? ⟨gb173, 3, none⟩ = some (.int .i64 (wrap64 ((wrap64 (a0_3 * a1_0)) + a1_3))) := (blk_cell BK173.out 3).trans rfl
                                have hcz51_4 : wr.cell? ⟨gb173, 4, none⟩ = some (.int .u32 x174004_2) := (blk_cell BK173.out 4).trans rfl
                                have hfz51_0 := blk_frozen BK173.out 0
                                have hfz51_1 := blk_frozen BK173.out 1
                                have hfz51_2 := blk_frozen BK173.out 2
                                have hfz51_3 := blk_frozen BK173.out 3
                                have hfz51_4 := blk_frozen BK173.out 4
                                obtain ⟨Ao53, co53, eo53⟩ := Kd.R_slice HO_8.out
                                subst eo53
                                try go_wp2_with (first | ((with_reducible refine gate_builtin (b := .append) (xs := #[.tmp 66, .tmp 68]) rfl ?_); at_builtin; refine Kd.S_append (Kd.slice 3 (Kd.int .i64)) (w0 := w) w.heap.size rfl (.tmp 66) (.tmp 68) 35 28 (.slice none 0 0) 24 rfl Try.underlying35 info28 rfl (by decide) (by omega) u174002 x174002_2 x8_3 [.slice Ao53 x8_3.length co53] (fun _ => True) (fun k_ => some k_ = (.slice Ao53 x8_3.length co53 : Value).ownBlock) rfl rfl ?aP (fun k_ hk_ => ((Kd.R_mono (ok' := fun k_ => ((fun _ => True)) k_ ∧ some k_ ≠ (u174002 : Value).ownBlock) (Kd.R_apart' (HO_8.out) (Kd.S_typed HO_174002.out) (by decide)) (fun k_ hk => ⟨trivial, hk.2⟩))).1 k_ hk_.symm) ?aF ?aO ?aB ?aS ?aL ?_; (case aP => exact Kd.M_row (Kd.R_mono (Kd.R_tight rfl (Kd.R_mono (ok' := fun k_ => ((fun _ => True)) k_ ∧ some k_ ≠ (u174002 : Value).ownBlock) (Kd.R_apart' (HO_8.out) (Kd.S_typed HO_174002.out) (by decide)) (fun k_ hk => ⟨trivial, hk.2⟩))) (fun _ h_ => h_))); (case aB => exact (by repeat (first | (with_reducible first | exact HB.out | apply below_alloc | apply pw_below_drewN | apply below_drew1 | refine below_set ?_ GE170.out | refine below_set ?_ GE171.out | refine below_set ?_ GE172.out | refine below_set ?_ GE173.out) | exact HB.out))); (case aF => exact (fun _ _ => trivial)); (case aO => exact (by (with_reducible repeat (first | apply Kd.S_alloc | apply Kd.S_drewN | apply Kd.S_drew)); exact Kd.S_mono HO_174002.out (fun k_ hk => ⟨trivial, fun e_ => hk e_⟩))); (case aS => exact (below_size (by repeat (first | (with_reducible first | exact HB.out | apply below_alloc | apply pw_below_drewN | apply below_drew1 | refine below_set ?_ GE170.out | refine below_set ?_ GE171.out | refine below_set ?_ GE172.out | refine below_set ?_ GE173.out) | exact HB.out)))); (case aL => have := LMc38.out; omega); intro v182 w52 ho hb hg hat; rw [← Ny181.out] at ho; have n0_ := Aside0.mk (blk_grown (g := gb170) (o := .cells #[.int .i64 a0_0, .int .i64 a0_1, .slice A0_2 l0_2.length c0_2, .int .i64 a0_3, .int .u32 a0_4] 37 (0, 0)) (by (with_reducible repeat (first | refine blk_drewN ?_ _ | refine blk_drew ?_ | refine blk_alloc ?_ _)); exact BK170.out) hg (Kd.S_ne HO_174002.out BK170.out (by decide))); have n1_ := Aside0.mk (blk_grown (g := gb171) (o := .cells #[.int .i64 a1_0, .int .i64 a1_1, .slice A1_2 l1_2.length c1_2, .int .i64 a1_3, .int .u32 a1_4] 37 (0, 0)) (by (with_reducible repeat (first | refine blk_drewN ?_ _ | refine blk_drew ?_ | refine blk_alloc ?_ _)); exact BK171.out) hg (Kd.S_ne HO_174002.out BK171.out (by decide))); have n2_ := Aside0.mk (blk_grown (g := gb172) (o := .cells #[.int .i64 0, .int .i64 0, .slice none 0 0, .int .i64 0, .int .u32 0] 37 (0, 0)) (by (with_reducible repeat (first | refine blk_drewN ?_ _ | refine blk_drew ?_ | refine blk_alloc ?_ _)); exact BK172.out) hg (Kd.S_ne HO_174002.out BK172.out (by decide))); have n3_ := Aside0.mk (blk_grown (g := gb173) (o := .cells #[.int .i64 (wrap64 (a0_0 * a1_0)), .int .i64 a0_1, u174002, .int .i64 (wrap64 ((wrap64 (a0_3 * a1_0)) + a1_3)), .int .u32 x174004_2] 37 (0, 0)) (by (with_reducible repeat (first | refine blk_drewN ?_ _ | refine blk_drew ?_ | refine blk_alloc ?_ _)); exact BK173.out) hg (Kd.S_ne HO_174002.out BK173.out (by decide))); have n4_ := Aside0.mk (hb); have n5_ := Aside0.mk (ho); clear BK170; clear BK171; clear BK172; clear BK173; clear HB; clear HO_174002; clear HO_8; have BK170 := n0_; have BK171 := n1_; have BK172 := n2_; have BK173 := n3_; have HB := n4_; have HO183 := n5_; clear n0_ n1_ n2_ n3_ n4_ n5_; clear ho hb hg hat; obtain ⟨Ao54, co54, eo54⟩ := Kd.S_slice HO183.out; subst eo54; have hcz55_0 : w52.cell? ⟨gb173, 0, none⟩ = some (.int .i64 (wrap64 (a0_0 * a1_0))) := (blk_cell BK173.out 0).trans rfl; have hcz55_1 : w52.cell? ⟨gb173, 1, none⟩ = some (.int .i64 a0_1) := (blk_cell BK173.out 1).trans rfl; have hcz55_2 : w52.cell? ⟨gb173, 2, none⟩ = some (u174002) := (blk_cell BK173.out 2).trans rfl; have hcz55_3 : w52.cell? ⟨gb173, 3, none⟩ = some (.int .i64 (wrap64 ((wrap64 (a0_3 * a1_0)) + a1_3))) := (blk_cell BK173.out 3).trans rfl; have hcz55_4 : w52.cell? ⟨gb173, 4, none⟩ = some (.int .u32 x174004_2) := (blk_cell BK173.out 4).trans rfl; have hfz55_0 := blk_frozen BK173.out 0; have hfz55_1 := blk_frozen BK173.out 1; have hfz55_2 := blk_frozen BK173.out 2; have hfz55_3 := blk_frozen BK173.out 3; have hfz55_4 := blk_frozen BK173.out 4; have hnb56 := NB170_171.out; have hnc56 := NB171_170.out; have hnb57 := NB170_172.out; have hnc57 := NB172_170.out; have hcz58_0 : w52.cell? ⟨gb170, 0, none⟩ = some (.int .i64 a0_0) := (blk_cell BK170.out 0).trans rfl; have hcz58_1 : w52.cell? ⟨gb170, 1, none⟩ = some (.int .i64 a0_1) := (blk_cell BK170.out 1).trans rfl; have hcz58_2 : w52.cell? ⟨gb170, 2, none⟩ = some (.slice A0_2 l0_2.length c0_2) := (blk_cell BK170.out 2).trans rfl; have hcz58_3 : w52.cell? ⟨gb170, 3, none⟩ = some (.int .i64 a0_3) := (blk_cell BK170.out 3).trans rfl; have hcz58_4 : w52.cell? ⟨gb170, 4, none⟩ = some (.int .u32 a0_4) := (blk_cell BK170.out 4).trans rfl; have hfz58_0 := blk_frozen BK170.out 0; have hfz58_1 := blk_frozen BK170.out 1; have hfz58_2 := blk_frozen BK170.out 2; have hfz58_3 := blk_frozen BK170.out 3; have hfz58_4 := blk_frozen BK170.out 4; have hnb59 := NB171_172.out; have hnc59 := NB172_171.out; have hcz60_0 : w52.cell? ⟨gb171, 0, none⟩ = some (.int .i64 a1_0) := (blk_cell BK171.out 0).trans rfl; have hcz60_1 : w52.cell? ⟨gb171, 1, none⟩ = some (.int .i64 a1_1) := (blk_cell BK171.out 1).trans rfl; have hcz60_2 : w52.cell? ⟨gb171, 2, none⟩ = some (.slice A1_2 l1_2.length c1_2) := (blk_cell BK171.out 2).trans rfl; have hcz60_3 : w52.cell? ⟨gb171, 3, none⟩ = some (.int .i64 a1_3) := (blk_cell BK171.out 3).trans rfl; have hcz60_4 : w52.cell? ⟨gb171, 4, none⟩ = some (.int .u32 a1_4) := (blk_cell BK171.out 4).trans rfl; have hfz60_0 := blk_frozen BK171.out 0; have hfz60_1 := blk_frozen BK171.out 1; have hfz60_2 := blk_frozen BK171.out 2; have hfz60_3 := blk_frozen BK171.out 3; have hfz60_4 := blk_frozen BK171.out 4))
                                have n0_ : Aside0 (Kd.S (Kd.slice 3 (Kd.int .i64)) 28 (w52.setCell ⟨gb173, 2, none⟩ (.slice Ao54 y181.length co54)) w.heap.size (fun _ => True) (.slice Ao54 y181.length co54) y181) := ⟨by (with_reducible repeat (first | apply Kd.S_alloc | apply Kd.S_drewN | apply Kd.S_drew)); exact Kd.S_mono (Kd.S_far (p := ⟨gb173, 2, none⟩) (Kd.S_types HO183.out BK173.out (by decide)) (fun _ hk => hk.2) (.slice Ao54 y181.length co54)) (fun _ hk => trivial)⟩
                                have n1_ : Aside0 ((w52.setCell ⟨gb173, 2, none⟩ (.slice Ao54 y181.length co54)).heap[gb170]? = some (.cells #[.int .i64 a0_0, .int .i64 a0_1, .slice A0_2 l0_2.length c0_2, .int .i64 a0_3, .int .u32 a0_4] 37 (0, 0))) := ⟨by (with_reducible repeat (first | refine blk_drewN ?_ _ | refine blk_drew ?_ | refine blk_alloc ?_ _)); refine blk_far ?_ NB170_173.out _; (with_reducible repeat (first | refine blk_drewN ?_ _ | refine blk_drew ?_ | refine blk_alloc ?_ _)); exact BK170.out⟩
                                have n2_ : Aside0 ((w52.setCell ⟨gb173, 2, none⟩ (.slice Ao54 y181.length co54)).heap[gb171]? = some (.cells #[.int .i64 a1_0, .int .i64 a1_1, .slice A1_2 l1_2.length c1_2, .int .i64 a1_3, .int .u32 a1_4] 37 (0, 0))) := ⟨by (with_reducible repeat (first | refine blk_drewN ?_ _ | refine blk_drew ?_ | refine blk_alloc ?_ _)); refine blk_far ?_ NB171_173.out _; (with_reducible repeat (first | refine blk_drewN ?_ _ | refine blk_drew ?_ | refine blk_alloc ?_ _)); exact BK171.out⟩
                                have n3_ : Aside0 ((w52.setCell ⟨gb173, 2, none⟩ (.slice Ao54 y181.length co54)).heap[gb172]? = some (.cells #[.int .i64 0, .int .i64 0, .slice none 0 0, .int .i64 0, .int .u32 0] 37 (0, 0))) := ⟨by (with_reducible repeat (first | refine blk_drewN ?_ _ | refine blk_drew ?_ | refine blk_alloc ?_ _)); refine blk_far ?_ NB172_173.out _; (with_reducible repeat (first | refine blk_drewN ?_ _ | refine blk_drew ?_ | refine blk_alloc ?_ _)); exact BK172.out⟩
                                have n4_ : Aside0 ((w52.setCell ⟨gb173, 2, none⟩ (.slice Ao54 y181.length co54)).heap[gb173]? = some (.cells #[.int .i64 (wrap64 (a0_0 * a1_0)), .int .i64 a0_1, .slice Ao54 y181.length co54, .int .i64 (wrap64 ((wrap64 (a0_3 * a1_0)) + a1_3)), .int .u32 x174004_2] 37 (0, 0))) := ⟨by (with_reducible repeat (first | refine blk_drewN ?_ _ | refine blk_drew ?_ | refine blk_alloc ?_ _)); refine blk_put (cs := #[.int .i64 (wrap64 (a0_0 * a1_0)), .int .i64 a0_1, u174002, .int .i64 (wrap64 ((wrap64 (a0_3 * a1_0)) + a1_3)), .int .u32 x174004_2]) ?_ 2 _ rfl; (with_reducible repeat (first | refine blk_drewN ?_ _ | refine blk_drew ?_ | refine blk_alloc ?_ _)); exact BK173.out⟩
                                have n5_ : Aside0 (Below w.heap.size w (w52.setCell ⟨gb173, 2, none⟩ (.slice Ao54 y181.length co54))) := ⟨by repeat (first | (with_reducible first | exact HB.out | apply below_alloc | apply pw_below_drewN | apply below_drew1 | refine below_set ?_ GE170.out | refine below_set ?_ GE171.out | refine below_set ?_ GE172.out | refine below_set ?_ GE173.out) | exact HB.out)⟩
                                (try clear HO183)
                                (try clear BK170)
                                (try clear BK171)
                                (try clear BK172)
                                (try clear BK173)
                                (try clear HB)
                                generalize (w52.setCell ⟨gb173, 2, none⟩ (.slice Ao54 y181.length co54)) = w61 at n0_ n1_ n2_ n3_ n4_ n5_ ⊢
                                have HO183 := n0_
                                have BK170 := n1_
                                have BK171 := n2_
                                have BK172 := n3_
                                have BK173 := n4_
                                have HB := n5_
                                clear n0_ n1_ n2_ n3_ n4_ n5_
                                have n0_ := Aside0.mk (Kd.S_drew HO183.out)
                                have n1_ := Aside0.mk (blk_drew BK170.out)
                                have n2_ := Aside0.mk (blk_drew BK171.out)
                                have n3_ := Aside0.mk (blk_drew BK172.out)
                                have n4_ := Aside0.mk (blk_drew BK173.out)
                                have n5_ := Aside0.mk (below_drew1 HB.out)
                                clear HO183
                                clear BK170
                                clear BK171
                                clear BK172
                                clear BK173
                                clear HB
                                have HO183 := n0_
                                have BK170 := n1_
                                have BK171 := n2_
                                have BK172 := n3_
                                have BK173 := n4_
                                have HB := n5_
                                clear n0_ n1_ n2_ n3_ n4_ n5_
                                refine start_ (n := 12) (S := fun w' => w'.cell? ⟨gb173, 0, none⟩ = some (.int .i64 (wrap64 (a0_0 * a1_0))) ∧ w'.cell? ⟨gb173, 1, none⟩ = some (.int .i64 a0_1) ∧ w'.cell? ⟨gb173, 2, none⟩ = some (.slice Ao54 y181.length co54) ∧ w'.cell? ⟨gb173, 3, none⟩ = some (.int .i64 (wrap64 ((wrap64 (a0_3 * a1_0)) + a1_3))) ∧ w'.cell? ⟨gb173, 4, none⟩ = some (.int .u32 x174004_2) ∧ w'.cell? ⟨gb171, 0, none⟩ = some (.int .i64 a1_0) ∧ w'.cell? ⟨gb171, 1, none⟩ = some (.int .i64 a1_1) ∧ w'.cell? ⟨gb171, 2, none⟩ = some (.slice A1_2 l1_2.length c1_2) ∧ w'.cell? ⟨gb171, 3, none⟩ = some (.int .i64 a1_3) ∧ w'.cell? ⟨gb171, 4, none⟩ = some (.int .u32 a1_4)) (ds := [11]) #[false, false, false, false, false, false, false, false, false, false, false, false] (by kernel_rfl) rfl rfl ⟨(blk_cell BK173.out 0).trans rfl, (blk_cell BK173.out 1).trans rfl, (blk_cell BK173.out 2).trans rfl, (blk_cell BK173.out 3).trans rfl, (blk_cell BK173.out 4).trans rfl, (blk_cell BK171.out 0).trans rfl, (blk_cell BK171.out 1).trans rfl, (blk_cell BK171.out 2).trans rfl, (blk_cell BK171.out 3).trans rfl, (blk_cell BK171.out 4).trans rfl⟩ (fun hHeld => ?_); refine with_tabW machine_Pairs.tab16 machine_Pairs.bits16 (fun HT_ HW_ => ?_)
                                generalize w61.drew = w62 at HO183 BK170 BK171 BK172 BK173 HB hHeld ⊢
                                refine pure_ (i := 0) (N := some 85) (v := ?_) (a' := ?_) #[true, false, false, false, false, false, false, false, false, false, false, false] rfl rfl (any_of HT_.out (by kernel_rfl)) (fun _ _ _ h => h) (Or.inl ⟨by rfl, ?_⟩) ?_ ?_
                                rotate_left
                                · intro w'
                                  go_simp
                                  with_reducible rfl
                                rotate_left
                                · simp only [Act.put, List.setIfInBounds_toArray, List.set_cons_zero, List.set_cons_succ, i64_w, i32_w]
                                  rfl
                                refine pure_ (i := 2) (N := some 87) (v := ?_) (a' := ?_) #[true, false, true, false, false, false, false, false, false, false, false, false] rfl rfl (any_of HT_.out (by kernel_rfl)) (fun _ _ _ h => h) (Or.inl ⟨by rfl, ?_⟩) ?_ ?_
                                rotate_left
                                · intro w'
                                  go_simp
                                  with_reducible rfl
                                rotate_left
                                · simp only [Act.put, List.setIfInBounds_toArray, List.set_cons_zero, List.set_cons_succ, i64_w, i32_w]
                                  rfl
                                refine pure_ (i := 3) (N := some 88) (v := ?_) (a' := ?_) #[true, false, true, true, false, false, false, false, false, false, false, false] rfl rfl (any_of HT_.out (by kernel_rfl)) (fun _ _ _ h => h) (Or.inl ⟨by rfl, ?_⟩) ?_ ?_
                                rotate_left
                                · intro w'
                                  go_simp
                                  with_reducible rfl
                                rotate_left
                                · simp only [Act.put, List.setIfInBounds_toArray, List.set_cons_zero, List.set_cons_succ, i64_w, i32_w]
                                  rfl
                                refine pure_ (i := 6) (N := some 91) (v := ?_) (a' := ?_) #[true, false, true, true, false, false, true, false, false, false, false, false] rfl rfl (any_of HT_.out (by kernel_rfl)) (fun _ _ _ h => h) (Or.inl ⟨by rfl, ?_⟩) ?_ ?_
                                rotate_left
                                · intro w'
                                  go_simp
                                  with_reducible rfl
                                rotate_left
                                · simp only [Act.put, List.setIfInBounds_toArray, List.set_cons_zero, List.set_cons_succ, i64_w, i32_w]
                                  rfl
                                refine take_ (i := 1) (N := some 86) (v := ?_) (a' := ?_) #[true, true, true, true, false, false, true, false, false, false, false, false] rfl rfl (take_ofW HT_.out HW_.out (by kernel_rfl)) (fun _ _ _ h => h) (Or.inl ⟨by rfl, ?_⟩) hHeld ?_ ?_
                                rotate_left
                                · rintro w' ⟨s0, s1, s2, s3, s4, s5, s6, s7, s8, s9⟩
                                  go_simp
                                  with_reducible rfl
                                rotate_left
                                · simp only [Act.put, List.setIfInBounds_toArray, List.set_cons_zero, List.set_cons_succ, i64_w, i32_w]
                                  rfl
                                refine take_ (i := 4) (N := some 89) (v := ?_) (a' := ?_) #[true, true, true, true, true, false, true, false, false, false, false, false] rfl rfl (take_ofW HT_.out HW_.out (by kernel_rfl)) (fun _ _ _ h => h) (Or.inl ⟨by rfl, ?_⟩) hHeld ?_ ?_
                                rotate_left
                                · rintro w' ⟨s0, s1, s2, s3, s4, s5, s6, s7, s8, s9⟩
                                  go_simp
                                  with_reducible rfl
                                rotate_left
                                · simp only [Act.put, List.setIfInBounds_toArray, List.set_cons_zero, List.set_cons_succ, i64_w, i32_w]
                                  rfl
                                refine pure_ (i := 5) (N := some 90) (v := ?_) (a' := ?_) #[true, true, true, true, true, true, true, false, false, false, false, false] rfl rfl (any_of HT_.out (by kernel_rfl)) (fun _ _ _ h => h) (Or.inl ⟨by rfl, ?_⟩) ?_ ?_
                                rotate_left
                                · intro w'
                                  go_simp
                                  with_reducible rfl
                                rotate_left
                                · simp only [Act.put, List.setIfInBounds_toArray, List.set_cons_zero, List.set_cons_succ, i64_w, i32_w]
                                  rfl
                                refine pure_ (i := 7) (N := some 92) (v := ?_) (a' := ?_) #[true, true, true, true, true, true, true, true, false, false, false, false] rfl rfl (any_of HT_.out (by kernel_rfl)) (fun _ _ _ h => h) (Or.inl ⟨by rfl, ?_⟩) ?_ ?_
                                rotate_left
                                · intro w'
                                  go_simp
                                  with_reducible rfl
                                rotate_left
                                · simp only [Act.put, List.setIfInBounds_toArray, List.set_cons_zero, List.set_cons_succ, i64_w, i32_w]
                                  rfl
                                refine pure_ (i := 8) (N := some 93) (v := ?_) (a' := ?_) #[true, true, true, true, true, true, true, true, true, false, false, false] rfl rfl (any_of HT_.out (by kernel_rfl)) (fun _ _ _ h => h) (Or.inl ⟨by rfl, ?_⟩) ?_ ?_
                                rotate_left
                                · intro w'
                                  go_simp
                                  with_reducible rfl
                                rotate_left
                                · simp only [Act.put, List.setIfInBounds_toArray, List.set_cons_zero, List.set_cons_succ, i64_w, i32_w]
                                  rfl
                                refine pure_ (i := 9) (N := some 94) (v := ?_) (a' := ?_) #[true, true, true, true, true, true, true, true, true, true, false, false] rfl rfl (any_of HT_.out (by kernel_rfl)) (fun _ _ _ h => h) (Or.inl ⟨by rfl, ?_⟩) ?_ ?_
                                rotate_left
                                · intro w'
                                  go_simp
                                  with_reducible rfl
                                rotate_left
                                · simp only [Act.put, List.setIfInBounds_toArray, List.set_cons_zero, List.set_cons_succ, i64_w, i32_w]
                                  rfl
                                refine pure_ (i := 10) (N := some 95) (v := ?_) (a' := ?_) #[true, true, true, true, true, true, true, true, true, true, true, false] rfl rfl (any_of HT_.out (by kernel_rfl)) (fun _ _ _ h => h) (Or.inl ⟨by rfl, ?_⟩) ?_ ?_
                                rotate_left
                                · intro w'
                                  go_simp
                                  with_reducible rfl
                                rotate_left
                                · simp only [Act.put, List.setIfInBounds_toArray, List.set_cons_zero, List.set_cons_succ, i64_w, i32_w]
                                  rfl
                                refine last_ (i := 11) (N := none) #[true, true, true, true, true, true, true, true, true, true, true, true] rfl rfl (one_of HT_.out (by kernel_rfl)) (by decide) (fun K hK => ?_)
                                have hs63 : w62.cell? ⟨gb173, 4, none⟩ = some (.int .u32 x174004_2) := (blk_cell BK173.out 4).trans rfl
                                have hfs63 := blk_frozen BK173.out 4
                                have hns63_0 := NB170_173.out
                                have hns63_1 := NB171_173.out
                                have hns63_2 := NB172_173.out
                                have hms63_0 := NB173_170.out
                                have hms63_1 := NB173_171.out
                                have hms63_2 := NB173_172.out
                                refine skip_ (w1 := ?_) (by rfl) rfl ?_ ?_
                                rotate_left
                                · go_simp
                                  rfl
                                refine hK.out _ _ ?_
                                clear hK K
                                refine done_ (done_of HT_.out (by kernel_rfl)) ?_
                                try go_wp2
                                first | go_roundg k3 | ((simp only [← hji40, ← hji43, ← hji45, ← hji47]); go_roundg k3)
                                case measure => have := HK1.out; have := HK2.out; have := HK3.out; omega
                                case rel => exact ⟨(wrap64 (x33_2 + 1)), (y181), (Go.bits .or .u32 x174004_2 (ji47)), (.slice Ao54 y181.length co54), (by first | rfl | (simp; done) | (simp [*]; done)), (by first | exact H' | ((simp only [hji40, hji43, hji45, hji47]); exact H') | (have h_ := H'.out; simp only [← hji40, ← hji43, ← hji45, ← hji47] at h_ ⊢; exact ⟨h_⟩)), ⟨by have := HK1.out; have := HK2.out; have := HK3.out; omega⟩, ⟨by (with_reducible repeat (first | apply Kd.S_alloc | apply Kd.S_drewN | apply Kd.S_drew)); exact Kd.S_mono (Kd.S_far (p := ⟨gb173, 4, none⟩) (Kd.S_types HO183.out BK173.out (by decide)) (fun _ hk => hk.2) (.int .u32 (Go.bits .or .u32 x174004_2 (ji47)))) (fun _ hk => trivial)⟩, ⟨by (with_reducible repeat (first | refine blk_drewN ?_ _ | refine blk_drew ?_ | refine blk_alloc ?_ _)); refine blk_far ?_ NB170_173.out _; (with_reducible repeat (first | refine blk_drewN ?_ _ | refine blk_drew ?_ | refine blk_alloc ?_ _)); exact BK170.out⟩, ⟨by (with_reducible repeat (first | refine blk_drewN ?_ _ | refine blk_drew ?_ | refine blk_alloc ?_ _)); refine blk_far ?_ NB171_173.out _; (with_reducible repeat (first | refine blk_drewN ?_ _ | refine blk_drew ?_ | refine blk_alloc ?_ _)); exact BK171.out⟩, ⟨by (with_reducible repeat (first | refine blk_drewN ?_ _ | refine blk_drew ?_ | refine blk_alloc ?_ _)); refine blk_far ?_ NB172_173.out _; (with_reducible repeat (first | refine blk_drewN ?_ _ | refine blk_drew ?_ | refine blk_alloc ?_ _)); exact BK172.out⟩, ⟨by (with_reducible repeat (first | refine blk_drewN ?_ _ | refine blk_drew ?_ | refine blk_alloc ?_ _)); refine blk_put (cs := #[.int .i64 (wrap64 (a0_0 * a1_0)), .int .i64 a0_1, .slice Ao54 y181.length co54, .int .i64 (wrap64 ((wrap64 (a0_3 * a1_0)) + a1_3)), .int .u32 x174004_2]) ?_ 4 _ rfl; (with_reducible repeat (first | refine blk_drewN ?_ _ | refine blk_drew ?_ | refine blk_alloc ?_ _)); exact BK173.out⟩, ⟨by repeat (first | (with_reducible first | exact HB.out | apply below_alloc | apply pw_below_drewN | apply below_drew1 | refine below_set ?_ GE170.out | refine below_set ?_ GE171.out | refine below_set ?_ GE172.out | refine below_set ?_ GE173.out) | exact HB.out)⟩⟩
                              · rw [if_neg c46] at H
                                exact absurd H (by simp)
                            · rw [if_neg c44] at H
                              have c44b0 : ((Go.bits .and .u32 (ji43) 1) == 1) = false := beq_eq_false_iff_ne.mpr c44
                              have c44b1 : ((Go.bits .and .u32 (ji43) 1) != 1) = true := bne_iff_ne.mpr c44
                              have H' := Aside0.mk H
                              clear H
                              have hnb64 := NB173_170.out
                              have hnc64 := NB170_173.out
                              have hnb65 := NB173_171.out
                              have hnc65 := NB171_173.out
                              have hnb66 := NB173_172.out
                              have hnc66 := NB172_173.out
                              have hcz67_0 : wr.cell? ⟨gb173, 0, none⟩ = some (.int .i64 (wrap64 (a0_0 * a1_0))) := (blk_cell BK173.out 0).trans rfl
                              have hcz67_1 : wr.cell? ⟨gb173, 1, none⟩ = some (.int .i64 a0_1) := (blk_cell BK173.out 1).trans rfl
                              have hcz67_2 : wr.cell? ⟨gb173, 2, none⟩ = some (u174002) := (blk_cell BK173.out 2).trans rfl
                              have hcz67_3 : wr.cell? ⟨gb173, 3, none⟩ = some (.int .i64 (wrap64 ((wrap64 (a0_3 * a1_0)) + a1_3))) := (blk_cell BK173.out 3).trans rfl
                              have hcz67_4 : wr.cell? ⟨gb173, 4, none⟩ = some (.int .u32 x174004_2) := (blk_cell BK173.out 4).trans rfl
                              have hfz67_0 := blk_frozen BK173.out 0
                              have hfz67_1 := blk_frozen BK173.out 1
                              have hfz67_2 := blk_frozen BK173.out 2
                              have hfz67_3 := blk_frozen BK173.out 3
                              have hfz67_4 := blk_frozen BK173.out 4
                              obtain ⟨Ao69, co69, eo69⟩ := Kd.R_slice HO_8.out
                              subst eo69
                              go_wp2_with (first | ((with_reducible refine gate_builtin (b := .append) (xs := #[.tmp 66, .tmp 68]) rfl ?_); at_builtin; refine Kd.S_append (Kd.slice 3 (Kd.int .i64)) (w0 := w) w.heap.size rfl (.tmp 66) (.tmp 68) 35 28 (.slice none 0 0) 24 rfl Try.underlying35 info28 rfl (by decide) (by omega) u174002 x174002_2 x8_3 [.slice Ao69 x8_3.length co69] (fun _ => True) (fun k_ => some k_ = (.slice Ao69 x8_3.length co69 : Value).ownBlock) rfl rfl ?aP (fun k_ hk_ => ((Kd.R_mono (ok' := fun k_ => ((fun _ => True)) k_ ∧ some k_ ≠ (u174002 : Value).ownBlock) (Kd.R_apart' (HO_8.out) (Kd.S_typed HO_174002.out) (by decide)) (fun k_ hk => ⟨trivial, hk.2⟩))).1 k_ hk_.symm) ?aF ?aO ?aB ?aS ?aL ?_; (case aP => exact Kd.M_row (Kd.R_mono (Kd.R_tight rfl (Kd.R_mono (ok' := fun k_ => ((fun _ => True)) k_ ∧ some k_ ≠ (u174002 : Value).ownBlock) (Kd.R_apart' (HO_8.out) (Kd.S_typed HO_174002.out) (by decide)) (fun k_ hk => ⟨trivial, hk.2⟩))) (fun _ h_ => h_))); (case aB => exact (by repeat (first | (with_reducible first | exact HB.out | apply below_alloc | apply pw_below_drewN | apply below_drew1 | refine below_set ?_ GE170.out | refine below_set ?_ GE171.out | refine below_set ?_ GE172.out | refine below_set ?_ GE173.out) | exact HB.out))); (case aF => exact (fun _ _ => trivial)); (case aO => exact (by (with_reducible repeat (first | apply Kd.S_alloc | apply Kd.S_drewN | apply Kd.S_drew)); exact Kd.S_mono HO_174002.out (fun k_ hk => ⟨trivial, fun e_ => hk e_⟩))); (case aS => exact (below_size (by repeat (first | (with_reducible first | exact HB.out | apply below_alloc | apply pw_below_drewN | apply below_drew1 | refine below_set ?_ GE170.out | refine below_set ?_ GE171.out | refine below_set ?_ GE172.out | refine below_set ?_ GE173.out) | exact HB.out)))); (case aL => have := LMc38.out; omega); intro v182 w68 ho hb hg hat; rw [← Ny181.out] at ho; have n0_ := Aside0.mk (blk_grown (g := gb170) (o := .cells #[.int .i64 a0_0, .int .i64 a0_1, .slice A0_2 l0_2.length c0_2, .int .i64 a0_3, .int .u32 a0_4] 37 (0, 0)) (by (with_reducible repeat (first | refine blk_drewN ?_ _ | refine blk_drew ?_ | refine blk_alloc ?_ _)); exact BK170.out) hg (Kd.S_ne HO_174002.out BK170.out (by decide))); have n1_ := Aside0.mk (blk_grown (g := gb171) (o := .cells #[.int .i64 a1_0, .int .i64 a1_1, .slice A1_2 l1_2.length c1_2, .int .i64 a1_3, .int .u32 a1_4] 37 (0, 0)) (by (with_reducible repeat (first | refine blk_drewN ?_ _ | refine blk_drew ?_ | refine blk_alloc ?_ _)); exact BK171.out) hg (Kd.S_ne HO_174002.out BK171.out (by decide))); have n2_ := Aside0.mk (blk_grown (g := gb172) (o := .cells #[.int .i64 0, .int .i64 0, .slice none 0 0, .int .i64 0, .int .u32 0] 37 (0, 0)) (by (with_reducible repeat (first | refine blk_drewN ?_ _ | refine blk_drew ?_ | refine blk_alloc ?_ _)); exact BK172.out) hg (Kd.S_ne HO_174002.out BK172.out (by decide))); have n3_ := Aside0.mk (blk_grown (g := gb173) (o := .cells #[.int .i64 (wrap64 (a0_0 * a1_0)), .int .i64 a0_1, u174002, .int .i64 (wrap64 ((wrap64 (a0_3 * a1_0)) + a1_3)), .int .u32 x174004_2] 37 (0, 0)) (by (with_reducible repeat (first | refine blk_drewN ?_ _ | refine blk_drew ?_ | refine blk_alloc ?_ _)); exact BK173.out) hg (Kd.S_ne HO_174002.out BK173.out (by decide))); have n4_ := Aside0.mk (hb); have n5_ := Aside0.mk (ho); clear BK170; clear BK171; clear BK172; clear BK173; clear HB; clear HO_174002; clear HO_8; have BK170 := n0_; have BK171 := n1_; have BK172 := n2_; have BK173 := n3_; have HB := n4_; have HO183 := n5_; clear n0_ n1_ n2_ n3_ n4_ n5_; clear ho hb hg hat; obtain ⟨Ao70, co70, eo70⟩ := Kd.S_slice HO183.out; subst eo70; have hcz71_0 : w68.cell? ⟨gb173, 0, none⟩ = some (.int .i64 (wrap64 (a0_0 * a1_0))) := (blk_cell BK173.out 0).trans rfl; have hcz71_1 : w68.cell? ⟨gb173, 1, none⟩ = some (.int .i64 a0_1) := (blk_cell BK173.out 1).trans rfl; have hcz71_2 : w68.cell? ⟨gb173, 2, none⟩ = some (u174002) := (blk_cell BK173.out 2).trans rfl; have hcz71_3 : w68.cell? ⟨gb173, 3, none⟩ = some (.int .i64 (wrap64 ((wrap64 (a0_3 * a1_0)) + a1_3))) := (blk_cell BK173.out 3).trans rfl; have hcz71_4 : w68.cell? ⟨gb173, 4, none⟩ = some (.int .u32 x174004_2) := (blk_cell BK173.out 4).trans rfl; have hfz71_0 := blk_frozen BK173.out 0; have hfz71_1 := blk_frozen BK173.out 1; have hfz71_2 := blk_frozen BK173.out 2; have hfz71_3 := blk_frozen BK173.out 3; have hfz71_4 := blk_frozen BK173.out 4; have hnb72 := NB170_171.out; have hnc72 := NB171_170.out; have hnb73 := NB170_172.out; have hnc73 := NB172_170.out; have hcz74_0 : w68.cell? ⟨gb170, 0, none⟩ = some (.int .i64 a0_0) := (blk_cell BK170.out 0).trans rfl; have hcz74_1 : w68.cell? ⟨gb170, 1, none⟩ = some (.int .i64 a0_1) := (blk_cell BK170.out 1).trans rfl; have hcz74_2 : w68.cell? ⟨gb170, 2, none⟩ = some (.slice A0_2 l0_2.length c0_2) := (blk_cell BK170.out 2).trans rfl; have hcz74_3 : w68.cell? ⟨gb170, 3, none⟩ = some (.int .i64 a0_3) := (blk_cell BK170.out 3).trans rfl; have hcz74_4 : w68.cell? ⟨gb170, 4, none⟩ = some (.int .u32 a0_4) := (blk_cell BK170.out 4).trans rfl; have hfz74_0 := blk_frozen BK170.out 0; have hfz74_1 := blk_frozen BK170.out 1; have hfz74_2 := blk_frozen BK170.out 2; have hfz74_3 := blk_frozen BK170.out 3; have hfz74_4 := blk_frozen BK170.out 4; have hnb75 := NB171_172.out; have hnc75 := NB172_171.out; have hcz76_0 : w68.cell? ⟨gb171, 0, none⟩ = some (.int .i64 a1_0) := (blk_cell BK171.out 0).trans rfl; have hcz76_1 : w68.cell? ⟨gb171, 1, none⟩ = some (.int .i64 a1_1) := (blk_cell BK171.out 1).trans rfl; have hcz76_2 : w68.cell? ⟨gb171, 2, none⟩ = some (.slice A1_2 l1_2.length c1_2) := (blk_cell BK171.out 2).trans rfl; have hcz76_3 : w68.cell? ⟨gb171, 3, none⟩ = some (.int .i64 a1_3) := (blk_cell BK171.out 3).trans rfl; have hcz76_4 : w68.cell? ⟨gb171, 4, none⟩ = some (.int .u32 a1_4) := (blk_cell BK171.out 4).trans rfl; have hfz76_0 := blk_frozen BK171.out 0; have hfz76_1 := blk_frozen BK171.out 1; have hfz76_2 := blk_frozen BK171.out 2; have hfz76_3 := blk_frozen BK171.out 3; have hfz76_4 := blk_frozen BK171.out 4))
                              first | go_roundg k3 | ((simp only [← hji40, ← hji43]); go_roundg k3)
                              case measure => have := HK1.out; have := HK2.out; have := HK3.out; omega
                              case rel => exact ⟨(wrap64 (x33_2 + 1)), (y181), (x174004_2), (.slice Ao70 y181.length co70), (by first | rfl | (simp; done) | (simp [*]; done)), (by first | exact H' | ((simp only [hji40, hji43]); exact H') | (have h_ := H'.out; simp only [← hji40, ← hji43] at h_ ⊢; exact ⟨h_⟩)), ⟨by have := HK1.out; have := HK2.out; have := HK3.out; omega⟩, ⟨by (with_reducible repeat (first | apply Kd.S_alloc | apply Kd.S_drewN | apply Kd.S_drew)); exact Kd.S_mono (Kd.S_far (p := ⟨gb173, 2, none⟩) (Kd.S_types HO183.out BK173.out (by decide)) (fun _ hk => hk.2) (.slice Ao70 y181.length co70)) (fun _ hk => trivial)⟩, ⟨by (with_reducible repeat (first | refine blk_drewN ?_ _ | refine blk_drew ?_ | refine blk_alloc ?_ _)); refine blk_far ?_ NB170_173.out _; (with_reducible repeat (first | refine blk_drewN ?_ _ | refine blk_drew ?_ | refine blk_alloc ?_ _)); exact BK170.out⟩, ⟨by (with_reducible repeat (first | refine blk_drewN ?_ _ | refine blk_drew ?_ | refine blk_alloc ?_ _)); refine blk_far ?_ NB171_173.out _; (with_reducible repeat (first | refine blk_drewN ?_ _ | refine blk_drew ?_ | refine blk_alloc ?_ _)); exact BK171.out⟩, ⟨by (with_reducible repeat (first | refine blk_drewN ?_ _ | refine blk_drew ?_ | refine blk_alloc ?_ _)); refine blk_far ?_ NB172_173.out _; (with_reducible repeat (first | refine blk_drewN ?_ _ | refine blk_drew ?_ | refine blk_alloc ?_ _)); exact BK172.out⟩, ⟨by (with_reducible repeat (first | refine blk_drewN ?_ _ | refine blk_drew ?_ | refine blk_alloc ?_ _)); refine blk_put (cs := #[.int .i64 (wrap64 (a0_0 * a1_0)), .int .i64 a0_1, u174002, .int .i64 (wrap64 ((wrap64 (a0_3 * a1_0)) + a1_3)), .int .u32 x174004_2]) ?_ 2 _ rfl; (with_reducible repeat (first | refine blk_drewN ?_ _ | refine blk_drew ?_ | refine blk_alloc ?_ _)); exact BK173.out⟩, ⟨by repeat (first | (with_reducible first | exact HB.out | apply below_alloc | apply pw_below_drewN | apply below_drew1 | refine below_set ?_ GE170.out | refine below_set ?_ GE171.out | refine below_set ?_ GE172.out | refine below_set ?_ GE173.out) | exact HB.out)⟩⟩
                          · rw [if_neg c42] at H
                            exact absurd H (by simp)
                        · rw [if_neg c41] at H
                          have c41b0 : ((Go.bits .and .u32 (ji40) 1) == 1) = false := beq_eq_false_iff_ne.mpr c41
                          have c41b1 : ((Go.bits .and .u32 (ji40) 1) != 1) = true := bne_iff_ne.mpr c41
                          have H' := Aside0.mk H
                          clear H
                          have hnb77 := NB173_170.out
                          have hnc77 := NB170_173.out
                          have hnb78 := NB173_171.out
                          have hnc78 := NB171_173.out
                          have hnb79 := NB173_172.out
                          have hnc79 := NB172_173.out
                          have hcz80_0 : wr.cell? ⟨gb173, 0, none⟩ = some (.int .i64 (wrap64 (a0_0 * a1_0))) := (blk_cell BK173.out 0).trans rfl
                          have hcz80_1 : wr.cell? ⟨gb173, 1, none⟩ = some (.int .i64 a0_1) := (blk_cell BK173.out 1).trans rfl
                          have hcz80_2 : wr.cell? ⟨gb173, 2, none⟩ = some (u174002) := (blk_cell BK173.out 2).trans rfl
                          have hcz80_3 : wr.cell? ⟨gb173, 3, none⟩ = some (.int .i64 (wrap64 ((wrap64 (a0_3 * a1_0)) + a1_3))) := (blk_cell BK173.out 3).trans rfl
                          have hcz80_4 : wr.cell? ⟨gb173, 4, none⟩ = some (.int .u32 x174004_2) := (blk_cell BK173.out 4).trans rfl
                          have hfz80_0 := blk_frozen BK173.out 0
                          have hfz80_1 := blk_frozen BK173.out 1
                          have hfz80_2 := blk_frozen BK173.out 2
                          have hfz80_3 := blk_frozen BK173.out 3
                          have hfz80_4 := blk_frozen BK173.out 4
                          obtain ⟨Ao82, co82, eo82⟩ := Kd.R_slice HO_8.out
                          subst eo82
                          go_wp2_with (first | ((with_reducible refine gate_builtin (b := .append) (xs := #[.tmp 66, .tmp 68]) rfl ?_); at_builtin; refine Kd.S_append (Kd.slice 3 (Kd.int .i64)) (w0 := w) w.heap.size rfl (.tmp 66) (.tmp 68) 35 28 (.slice none 0 0) 24 rfl Try.underlying35 info28 rfl (by decide) (by omega) u174002 x174002_2 x8_3 [.slice Ao82 x8_3.length co82] (fun _ => True) (fun k_ => some k_ = (.slice Ao82 x8_3.length co82 : Value).ownBlock) rfl rfl ?aP (fun k_ hk_ => ((Kd.R_mono (ok' := fun k_ => ((fun _ => True)) k_ ∧ some k_ ≠ (u174002 : Value).ownBlock) (Kd.R_apart' (HO_8.out) (Kd.S_typed HO_174002.out) (by decide)) (fun k_ hk => ⟨trivial, hk.2⟩))).1 k_ hk_.symm) ?aF ?aO ?aB ?aS ?aL ?_; (case aP => exact Kd.M_row (Kd.R_mono (Kd.R_tight rfl (Kd.R_mono (ok' := fun k_ => ((fun _ => True)) k_ ∧ some k_ ≠ (u174002 : Value).ownBlock) (Kd.R_apart' (HO_8.out) (Kd.S_typed HO_174002.out) (by decide)) (fun k_ hk => ⟨trivial, hk.2⟩))) (fun _ h_ => h_))); (case aB => exact (by repeat (first | (with_reducible first | exact HB.out | apply below_alloc | apply pw_below_drewN | apply below_drew1 | refine below_set ?_ GE170.out | refine below_set ?_ GE171.out | refine below_set ?_ GE172.out | refine below_set ?_ GE173.out) | exact HB.out))); (case aF => exact (fun _ _ => trivial)); (case aO => exact (by (with_reducible repeat (first | apply Kd.S_alloc | apply Kd.S_drewN | apply Kd.S_drew)); exact Kd.S_mono HO_174002.out (fun k_ hk => ⟨trivial, fun e_ => hk e_⟩))); (case aS => exact (below_size (by repeat (first | (with_reducible first | exact HB.out | apply below_alloc | apply pw_below_drewN | apply below_drew1 | refine below_set ?_ GE170.out | refine below_set ?_ GE171.out | refine below_set ?_ GE172.out | refine below_set ?_ GE173.out) | exact HB.out)))); (case aL => have := LMc38.out; omega); intro v182 w81 ho hb hg hat; rw [← Ny181.out] at ho; have n0_ := Aside0.mk (blk_grown (g := gb170) (o := .cells #[.int .i64 a0_0, .int .i64 a0_1, .slice A0_2 l0_2.length c0_2, .int .i64 a0_3, .int .u32 a0_4] 37 (0, 0)) (by (with_reducible repeat (first | refine blk_drewN ?_ _ | refine blk_drew ?_ | refine blk_alloc ?_ _)); exact BK170.out) hg (Kd.S_ne HO_174002.out BK170.out (by decide))); have n1_ := Aside0.mk (blk_grown (g := gb171) (o := .cells #[.int .i64 a1_0, .int .i64 a1_1, .slice A1_2 l1_2.length c1_2, .int .i64 a1_3, .int .u32 a1_4] 37 (0, 0)) (by (with_reducible repeat (first | refine blk_drewN ?_ _ | refine blk_drew ?_ | refine blk_alloc ?_ _)); exact BK171.out) hg (Kd.S_ne HO_174002.out BK171.out (by decide))); have n2_ := Aside0.mk (blk_grown (g := gb172) (o := .cells #[.int .i64 0, .int .i64 0, .slice none 0 0, .int .i64 0, .int .u32 0] 37 (0, 0)) (by (with_reducible repeat (first | refine blk_drewN ?_ _ | refine blk_drew ?_ | refine blk_alloc ?_ _)); exact BK172.out) hg (Kd.S_ne HO_174002.out BK172.out (by decide))); have n3_ := Aside0.mk (blk_grown (g := gb173) (o := .cells #[.int .i64 (wrap64 (a0_0 * a1_0)), .int .i64 a0_1, u174002, .int .i64 (wrap64 ((wrap64 (a0_3 * a1_0)) + a1_3)), .int .u32 x174004_2] 37 (0, 0)) (by (with_reducible repeat (first | refine blk_drewN ?_ _ | refine blk_drew ?_ | refine blk_alloc ?_ _)); exact BK173.out) hg (Kd.S_ne HO_174002.out BK173.out (by decide))); have n4_ := Aside0.mk (hb); have n5_ := Aside0.mk (ho); clear BK170; clear BK171; clear BK172; clear BK173; clear HB; clear HO_174002; clear HO_8; have BK170 := n0_; have BK171 := n1_; have BK172 := n2_; have BK173 := n3_; have HB := n4_; have HO183 := n5_; clear n0_ n1_ n2_ n3_ n4_ n5_; clear ho hb hg hat; obtain ⟨Ao83, co83, eo83⟩ := Kd.S_slice HO183.out; subst eo83; have hcz84_0 : w81.cell? ⟨gb173, 0, none⟩ = some (.int .i64 (wrap64 (a0_0 * a1_0))) := (blk_cell BK173.out 0).trans rfl; have hcz84_1 : w81.cell? ⟨gb173, 1, none⟩ = some (.int .i64 a0_1) := (blk_cell BK173.out 1).trans rfl; have hcz84_2 : w81.cell? ⟨gb173, 2, none⟩ = some (u174002) := (blk_cell BK173.out 2).trans rfl; have hcz84_3 : w81.cell? ⟨gb173, 3, none⟩ = some (.int .i64 (wrap64 ((wrap64 (a0_3 * a1_0)) + a1_3))) := (blk_cell BK173.out 3).trans rfl; have hcz84_4 : w81.cell? ⟨gb173, 4, none⟩ = some (.int .u32 x174004_2) := (blk_cell BK173.out 4).trans rfl; have hfz84_0 := blk_frozen BK173.out 0; have hfz84_1 := blk_frozen BK173.out 1; have hfz84_2 := blk_frozen BK173.out 2; have hfz84_3 := blk_frozen BK173.out 3; have hfz84_4 := blk_frozen BK173.out 4; have hnb85 := NB170_171.out; have hnc85 := NB171_170.out; have hnb86 := NB170_172.out; have hnc86 := NB172_170.out; have hcz87_0 : w81.cell? ⟨gb170, 0, none⟩ = some (.int .i64 a0_0) := (blk_cell BK170.out 0).trans rfl; have hcz87_1 : w81.cell? ⟨gb170, 1, none⟩ = some (.int .i64 a0_1) := (blk_cell BK170.out 1).trans rfl; have hcz87_2 : w81.cell? ⟨gb170, 2, none⟩ = some (.slice A0_2 l0_2.length c0_2) := (blk_cell BK170.out 2).trans rfl; have hcz87_3 : w81.cell? ⟨gb170, 3, none⟩ = some (.int .i64 a0_3) := (blk_cell BK170.out 3).trans rfl; have hcz87_4 : w81.cell? ⟨gb170, 4, none⟩ = some (.int .u32 a0_4) := (blk_cell BK170.out 4).trans rfl; have hfz87_0 := blk_frozen BK170.out 0; have hfz87_1 := blk_frozen BK170.out 1; have hfz87_2 := blk_frozen BK170.out 2; have hfz87_3 := blk_frozen BK170.out 3; have hfz87_4 := blk_frozen BK170.out 4))
                          first | go_roundg k3 | ((simp only [← hji40]); go_roundg k3)
                          case measure => have := HK1.out; have := HK2.out; have := HK3.out; omega
                          case rel => exact ⟨(wrap64 (x33_2 + 1)), (y181), (x174004_2), (.slice Ao83 y181.length co83), (by first | rfl | (simp; done) | (simp [*]; done)), (by first | exact H' | ((simp only [hji40]); exact H') | (have h_ := H'.out; simp only [← hji40] at h_ ⊢; exact ⟨h_⟩)), ⟨by have := HK1.out; have := HK2.out; have := HK3.out; omega⟩, ⟨by (with_reducible repeat (first | apply Kd.S_alloc | apply Kd.S_drewN | apply Kd.S_drew)); exact Kd.S_mono (Kd.S_far (p := ⟨gb173, 2, none⟩) (Kd.S_types HO183.out BK173.out (by decide)) (fun _ hk => hk.2) (.slice Ao83 y181.length co83)) (fun _ hk => trivial)⟩, ⟨by (with_reducible repeat (first | refine blk_drewN ?_ _ | refine blk_drew ?_ | refine blk_alloc ?_ _)); refine blk_far ?_ NB170_173.out _; (with_reducible repeat (first | refine blk_drewN ?_ _ | refine blk_drew ?_ | refine blk_alloc ?_ _)); exact BK170.out⟩, ⟨by (with_reducible repeat (first | refine blk_drewN ?_ _ | refine blk_drew ?_ | refine blk_alloc ?_ _)); refine blk_far ?_ NB171_173.out _; (with_reducible repeat (first | refine blk_drewN ?_ _ | refine blk_drew ?_ | refine blk_alloc ?_ _)); exact BK171.out⟩, ⟨by (with_reducible repeat (first | refine blk_drewN ?_ _ | refine blk_drew ?_ | refine blk_alloc ?_ _)); refine blk_far ?_ NB172_173.out _; (with_reducible repeat (first | refine blk_drewN ?_ _ | refine blk_drew ?_ | refine blk_alloc ?_ _)); exact BK172.out⟩, ⟨by (with_reducible repeat (first | refine blk_drewN ?_ _ | refine blk_drew ?_ | refine blk_alloc ?_ _)); refine blk_put (cs := #[.int .i64 (wrap64 (a0_0 * a1_0)), .int .i64 a0_1, u174002, .int .i64 (wrap64 ((wrap64 (a0_3 * a1_0)) + a1_3)), .int .u32 x174004_2]) ?_ 2 _ rfl; (with_reducible repeat (first | refine blk_drewN ?_ _ | refine blk_drew ?_ | refine blk_alloc ?_ _)); exact BK173.out⟩, ⟨by repeat (first | (with_reducible first | exact HB.out | apply below_alloc | apply pw_below_drewN | apply below_drew1 | refine below_set ?_ GE170.out | refine below_set ?_ GE171.out | refine below_set ?_ GE172.out | refine below_set ?_ GE173.out) | exact HB.out)⟩⟩
                      · rw [if_neg c39] at H
                        exact absurd H (by simp)
                    · rw [if_neg c38] at H
                      exact absurd H (by simp)
            · rw [if_neg c22] at H
              have c22b0 : decide (x33_2 < a1_0) = false := decide_eq_false c22
              clear c22
              have H' := Aside0.mk H
              clear H
              go_wp2
              go_roundg k2
              case measure => have := HK1.out; have := HK2.out; omega
              case rel => exact ⟨(wrap64 (x28_1 + 1)), (x174002_2), (x174004_2), (u174002), (by first | rfl | (simp; done) | (simp [*]; done)), H', ⟨by have := HK1.out; have := HK2.out; omega⟩, ⟨by (with_reducible repeat (first | apply Kd.S_alloc | apply Kd.S_drewN | apply Kd.S_drew)); exact HO_174002.out⟩, ⟨by (with_reducible repeat (first | refine blk_drewN ?_ _ | refine blk_drew ?_ | refine blk_alloc ?_ _)); exact BK170.out⟩, ⟨by (with_reducible repeat (first | refine blk_drewN ?_ _ | refine blk_drew ?_ | refine blk_alloc ?_ _)); exact BK171.out⟩, ⟨by (with_reducible repeat (first | refine blk_drewN ?_ _ | refine blk_drew ?_ | refine blk_alloc ?_ _)); exact BK172.out⟩, ⟨by (with_reducible repeat (first | refine blk_drewN ?_ _ | refine blk_drew ?_ | refine blk_alloc ?_ _)); exact BK173.out⟩, ⟨by repeat (first | (with_reducible first | exact HB.out | apply below_alloc | apply pw_below_drewN | apply below_drew1 | refine below_set ?_ GE170.out | refine below_set ?_ GE171.out | refine below_set ?_ GE172.out | refine below_set ?_ GE173.out) | exact HB.out)⟩⟩
      · rw [if_neg c17] at H
        have c17b0 : decide (x28_1 < a0_0) = false := decide_eq_false c17
        clear c17
        simp only [Option.some.injEq, Prod.mk.injEq] at H
        obtain ⟨rfl, rfl, rfl, rfl, rfl⟩ := H
        have hnb88 := NB173_170.out
        have hnc88 := NB170_173.out
        have hnb89 := NB173_171.out
        have hnc89 := NB171_173.out
        have hnb90 := NB173_172.out
        have hnc90 := NB172_173.out
        have hcz91_0 : wr.cell? ⟨gb173, 0, none⟩ = some (.int .i64 (wrap64 (a0_0 * a1_0))) := (blk_cell BK173.out 0).trans rfl
        have hcz91_1 : wr.cell? ⟨gb173, 1, none⟩ = some (.int .i64 a0_1) := (blk_cell BK173.out 1).trans rfl
        have hcz91_2 : wr.cell? ⟨gb173, 2, none⟩ = some (u174002) := (blk_cell BK173.out 2).trans rfl
        have hcz91_3 : wr.cell? ⟨gb173, 3, none⟩ = some (.int .i64 (wrap64 ((wrap64 (a0_3 * a1_0)) + a1_3))) := (blk_cell BK173.out 3).trans rfl
        have hcz91_4 : wr.cell? ⟨gb173, 4, none⟩ = some (.int .u32 x174004_1) := (blk_cell BK173.out 4).trans rfl
        have hfz91_0 := blk_frozen BK173.out 0
        have hfz91_1 := blk_frozen BK173.out 1
        have hfz91_2 := blk_frozen BK173.out 2
        have hfz91_3 := blk_frozen BK173.out 3
        have hfz91_4 := blk_frozen BK173.out 4
        have hnb92 := NB172_170.out
        have hnc92 := NB170_172.out
        have hnb93 := NB172_171.out
        have hnc93 := NB171_172.out
        have hcz94_0 : wr.cell? ⟨gb172, 0, none⟩ = some (.int .i64 0) := (blk_cell BK172.out 0).trans rfl
        have hcz94_1 : wr.cell? ⟨gb172, 1, none⟩ = some (.int .i64 0) := (blk_cell BK172.out 1).trans rfl
        have hcz94_2 : wr.cell? ⟨gb172, 2, none⟩ = some (.slice none 0 0) := (blk_cell BK172.out 2).trans rfl
        have hcz94_3 : wr.cell? ⟨gb172, 3, none⟩ = some (.int .i64 0) := (blk_cell BK172.out 3).trans rfl
        have hcz94_4 : wr.cell? ⟨gb172, 4, none⟩ = some (.int .u32 0) := (blk_cell BK172.out 4).trans rfl
        have hfz94_0 := blk_frozen BK172.out 0
        have hfz94_1 := blk_frozen BK172.out 1
        have hfz94_2 := blk_frozen BK172.out 2
        have hfz94_3 := blk_frozen BK172.out 3
        have hfz94_4 := blk_frozen BK172.out 4
        obtain ⟨Ao95, co95, eo95⟩ := Kd.S_slice HO_174002.out
        subst eo95
        go_wp2
        refine bodyPost_ret (results_cell_row rfl _ _ gb172 37 #[.int .i64 (wrap64 (a0_0 * a1_0)), .int .i64 a0_1, .slice Ao95 x174002_1.length co95, .int .i64 (wrap64 ((wrap64 (a0_3 * a1_0)) + a1_3)), .int .u32 x174004_1] (0, 0) _ rfl (by (with_reducible repeat (first | refine blk_drewN ?_ _ | refine blk_drew ?_ | refine blk_alloc ?_ _)); refine blk_put (cs := #[.int .i64 (wrap64 (a0_0 * a1_0)), .int .i64 a0_1, .slice Ao95 x174002_1.length co95, .int .i64 (wrap64 ((wrap64 (a0_3 * a1_0)) + a1_3)), .int .u32 0]) ?_ 4 _ rfl; (with_reducible repeat (first | refine blk_drewN ?_ _ | refine blk_drew ?_ | refine blk_alloc ?_ _)); refine blk_put (cs := #[.int .i64 (wrap64 (a0_0 * a1_0)), .int .i64 a0_1, .slice Ao95 x174002_1.length co95, .int .i64 0, .int .u32 0]) ?_ 3 _ rfl; (with_reducible repeat (first | refine blk_drewN ?_ _ | refine blk_drew ?_ | refine blk_alloc ?_ _)); refine blk_put (cs := #[.int .i64 (wrap64 (a0_0 * a1_0)), .int .i64 a0_1, .slice none 0 0, .int .i64 0, .int .u32 0]) ?_ 2 _ rfl; (with_reducible repeat (first | refine blk_drewN ?_ _ | refine blk_drew ?_ | refine blk_alloc ?_ _)); refine blk_put (cs := #[.int .i64 (wrap64 (a0_0 * a1_0)), .int .i64 0, .slice none 0 0, .int .i64 0, .int .u32 0]) ?_ 1 _ rfl; (with_reducible repeat (first | refine blk_drewN ?_ _ | refine blk_drew ?_ | refine blk_alloc ?_ _)); refine blk_put (cs := #[.int .i64 0, .int .i64 0, .slice none 0 0, .int .i64 0, .int .u32 0]) ?_ 0 _ rfl; (with_reducible repeat (first | refine blk_drewN ?_ _ | refine blk_drew ?_ | refine blk_alloc ?_ _)); exact BK172.out) Try.underlying37 rfl (by kernel_rfl)) rfl ?_
        exact ⟨_, by first | rfl | (simp [errW_none, errW_some] <;> rfl) | (simp [*, errW_none, errW_some] <;> rfl), by (with_reducible repeat (first | apply Kd.S_alloc | apply Kd.S_drewN | apply Kd.S_drew)); exact Kd.S_mono (Kd.S_far (p := ⟨gb172, 4, none⟩) (Kd.S_far (p := ⟨gb172, 3, none⟩) (Kd.S_far (p := ⟨gb172, 2, none⟩) (Kd.S_far (p := ⟨gb172, 1, none⟩) (Kd.S_far (p := ⟨gb172, 0, none⟩) (Kd.S_types HO_174002.out BK172.out (by decide)) (fun _ hk => hk.2) (.int .i64 (wrap64 (a0_0 * a1_0)))) (fun _ hk => hk.2) (.int .i64 a0_1)) (fun _ hk => hk.2) (.slice Ao95 x174002_1.length co95)) (fun _ hk => hk.2) (.int .i64 (wrap64 ((wrap64 (a0_3 * a1_0)) + a1_3)))) (fun _ hk => hk.2) (.int .u32 x174004_1)) (fun _ hk => trivial), by repeat (first | (with_reducible first | exact HB.out | apply below_alloc | apply pw_below_drewN | apply below_drew1 | refine below_set ?_ GE170.out | refine below_set ?_ GE171.out | refine below_set ?_ GE172.out | refine below_set ?_ GE173.out) | exact HB.out)⟩

end Go.Proofs.Ytiiankjmeodjdaa.GA
