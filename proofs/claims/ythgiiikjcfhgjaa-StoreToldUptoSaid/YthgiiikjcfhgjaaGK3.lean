-- Written by ext.py, a program of this session.
import Derived.Test.YthgiiikjcfhgjaaGK0
import Derived.Test.YthgiiikjcfhgjaaGK2
namespace Go.Proofs.Ythgiiikjcfhgjaa.GK
open Go.RowKit Go.Proofs.YthgiiikjcfhgjaaW.PrintWords Go.Proofs.YthgiiikjcfhgjaaW.PrintLast Go.Proofs.YthgiiikjcfhgjaaW.PrintMore
attribute [local go_sem] max2_int min2_int max_two min_two max_three min_three max_four min_four cellIs_set   -- for this text's walks alone
set_option linter.unusedVariables false
set_option linter.unusedSimpArgs false

/-! ### thicket_Count: function 110 -/
mutual
def thicket_Count.l0 : Nat → List Int → List Int → Int → Int → List (S117) → Int → Option (Int × Int)
  | 0, _, _, _, _, _, _ => none
  | k + 1, x4, x6, x26, x27, x121000, x121001 => if x27 < x26 then (if 0 ≤ x27 then (if x27 < (x4.length : Int) then (if 0 ≤ (rd x4 x27) then (if (rd x4 x27) < (x121000.length : Int) then (if (((rd_T117 x121000 (rd x4 x27)).f3).length : Int) = 0 then (if (rd x4 x27) < (x6.length : Int) then (thicket_Count.j1 k x4 (x6.set ((rd x4 x27) : Int).toNat 1) (rd x4 x27) x26 x27 x121000 x121001) else (none)) else (thicket_Count.j1 k x4 x6 (rd x4 x27) x26 x27 x121000 x121001)) else (none)) else (none)) else (none)) else (none)) else (if 0 ≤ x121001 then (if x121001 < (x6.length : Int) then (if (rd x6 x121001) > 1099511627776 then (some (0, 1)) else (some (rd x6 x121001, 0))) else (none)) else (none))
def thicket_Count.j1 : Nat → List Int → List Int → Int → Int → Int → List (S117) → Int → Option (Int × Int)
  | 0, _, _, _, _, _, _, _ => none
  | k + 1, x4, x6, x8, x26, x27, x121000, x121001 => if 0 ≤ x8 then (if x8 < (x121000.length : Int) then (thicket_Count.l1 k x4 x6 x8 x26 x27 ((rd_T117 x121000 x8).f3) (((rd_T117 x121000 x8).f3).length : Int) 0 x121000 x121001) else (none)) else (none)
def thicket_Count.l1 : Nat → List Int → List Int → Int → Int → Int → List (List Int) → Int → Int → List (S117) → Int → Option (Int × Int)
  | 0, _, _, _, _, _, _, _, _, _, _ => none
  | k + 1, x4, x6, x8, x26, x27, x47, x48, x49, x121000, x121001 => if x49 < x48 then (if 0 ≤ x49 then (if x49 < (x47.length : Int) then (if 0 ≤ (mn 1 ((rd_L1 x47 x49).length : Int)) then (if (mn 1 ((rd_L1 x47 x49).length : Int)) ≤ ((rd_L1 x47 x49).length : Int) then (thicket_Count.l2 k x4 x6 x8 1 x26 x27 x47 x48 x49 ((rd_L1 x47 x49).drop ((mn 1 ((rd_L1 x47 x49).length : Int)) : Int).toNat) (((rd_L1 x47 x49).drop ((mn 1 ((rd_L1 x47 x49).length : Int)) : Int).toNat).length : Int) 0 x121000 x121001) else (none)) else (none)) else (none)) else (none)) else (thicket_Count.l0 k x4 x6 x26 (wrap64 (x27 + 1)) x121000 x121001)
def thicket_Count.l2 : Nat → List Int → List Int → Int → Int → Int → Int → List (List Int) → Int → Int → List Int → Int → Int → List (S117) → Int → Option (Int × Int)
  | 0, _, _, _, _, _, _, _, _, _, _, _, _, _, _ => none
  | k + 1, x4, x6, x8, x11, x26, x27, x47, x48, x49, x57, x58, x59, x121000, x121001 => if x59 < x58 then (if 0 ≤ x59 then (if x59 < (x57.length : Int) then (if 0 ≤ (rd x57 x59) then (if (rd x57 x59) < (x6.length : Int) then (if (rd x6 (rd x57 x59)) > 0 then (if (rd x6 (rd x57 x59)) = 0 then (none) else (if x11 > (wrap64 ((1099511627777 : Int) / (rd x6 (rd x57 x59)))) then (thicket_Count.l2 k x4 x6 x8 1099511627777 x26 x27 x47 x48 x49 x57 x58 (wrap64 (x59 + 1)) x121000 x121001) else (thicket_Count.l2 k x4 x6 x8 (wrap64 (x11 * (rd x6 (rd x57 x59)))) x26 x27 x47 x48 x49 x57 x58 (wrap64 (x59 + 1)) x121000 x121001))) else (thicket_Count.l2 k x4 x6 x8 (wrap64 (x11 * (rd x6 (rd x57 x59)))) x26 x27 x47 x48 x49 x57 x58 (wrap64 (x59 + 1)) x121000 x121001)) else (none)) else (none)) else (none)) else (none)) else (if 0 ≤ x8 then (if x8 < (x6.length : Int) then (thicket_Count.l1 k x4 (x6.set (x8 : Int).toNat (mn (wrap64 ((rd x6 x8) + x11)) 1099511627777)) x8 x26 x27 x47 x48 (wrap64 (x49 + 1)) x121000 x121001) else (none)) else (none))
end
def thicket_Count.f (k : Nat) (l0_0 : List (S117)) (a0_1 : Int) : Option (Int × Int) := (thicket_order.f k l0_0 a0_1).bind fun bt121 => (if bt121.2 = true then (if 0 ≤ (l0_0.length : Int) then (if ((l0_0.length : Int) : Int).toNat ≤ 35184372088832 then (thicket_Count.l0 k bt121.1 (List.replicate ((l0_0.length : Int) : Int).toNat 0) (bt121.1.length : Int) 0 l0_0 a0_1) else (none)) else (none)) else (some (0, 3)))
theorem thicket_Count.mono_l : ∀ k, (∀ y0 y1 y2 y3 y4 y5, LeO (thicket_Count.l0 k y0 y1 y2 y3 y4 y5) (thicket_Count.l0 (k + 1) y0 y1 y2 y3 y4 y5)) ∧ (∀ y0 y1 y2 y3 y4 y5 y6, LeO (thicket_Count.j1 k y0 y1 y2 y3 y4 y5 y6) (thicket_Count.j1 (k + 1) y0 y1 y2 y3 y4 y5 y6)) ∧ (∀ y0 y1 y2 y3 y4 y5 y6 y7 y8 y9, LeO (thicket_Count.l1 k y0 y1 y2 y3 y4 y5 y6 y7 y8 y9) (thicket_Count.l1 (k + 1) y0 y1 y2 y3 y4 y5 y6 y7 y8 y9)) ∧ (∀ y0 y1 y2 y3 y4 y5 y6 y7 y8 y9 y10 y11 y12 y13, LeO (thicket_Count.l2 k y0 y1 y2 y3 y4 y5 y6 y7 y8 y9 y10 y11 y12 y13) (thicket_Count.l2 (k + 1) y0 y1 y2 y3 y4 y5 y6 y7 y8 y9 y10 y11 y12 y13))
  | 0 => ⟨fun _ _ _ _ _ _ r h => by simp [thicket_Count.l0] at h, fun _ _ _ _ _ _ _ r h => by simp [thicket_Count.j1] at h, fun _ _ _ _ _ _ _ _ _ _ r h => by simp [thicket_Count.l1] at h, fun _ _ _ _ _ _ _ _ _ _ _ _ _ _ r h => by simp [thicket_Count.l2] at h⟩
  | k + 1 => by
    obtain ⟨ih0, ih1, ih2, ih3⟩ := thicket_Count.mono_l k
    refine ⟨?_, ?_, ?_, ?_⟩
    · intro y0 y1 y2 y3 y4 y5
      unfold thicket_Count.l0
      repeat' first
      | (with_reducible exact ih0 _ _ _ _ _ _)
      | (with_reducible exact ih1 _ _ _ _ _ _ _)
      | (with_reducible exact ih2 _ _ _ _ _ _ _ _ _ _)
      | (with_reducible exact ih3 _ _ _ _ _ _ _ _ _ _ _ _ _ _)
      | (with_reducible exact thicket_order.mono _ _ _)
      | (with_reducible exact LeO.refl _)
      | (with_reducible exact LeO.none _)
      | (with_reducible refine LeO.ite ?_ ?_)
      | (with_reducible refine LeO.bind ?_ (fun _ => ?_))
      | exact ih0 _ _ _ _ _ _
      | exact ih1 _ _ _ _ _ _ _
      | exact ih2 _ _ _ _ _ _ _ _ _ _
      | exact ih3 _ _ _ _ _ _ _ _ _ _ _ _ _ _
      | exact thicket_order.mono _ _ _
      | exact LeO.none _
      | refine LeO.ite ?_ ?_
      | refine LeO.bind ?_ (fun _ => ?_)
    · intro y0 y1 y2 y3 y4 y5 y6
      unfold thicket_Count.j1
      repeat' first
      | (with_reducible exact ih0 _ _ _ _ _ _)
      | (with_reducible exact ih1 _ _ _ _ _ _ _)
      | (with_reducible exact ih2 _ _ _ _ _ _ _ _ _ _)
      | (with_reducible exact ih3 _ _ _ _ _ _ _ _ _ _ _ _ _ _)
      | (with_reducible exact thicket_order.mono _ _ _)
      | (with_reducible exact LeO.refl _)
      | (with_reducible exact LeO.none _)
      | (with_reducible refine LeO.ite ?_ ?_)
      | (with_reducible refine LeO.bind ?_ (fun _ => ?_))
      | exact ih0 _ _ _ _ _ _
      | exact ih1 _ _ _ _ _ _ _
      | exact ih2 _ _ _ _ _ _ _ _ _ _
      | exact ih3 _ _ _ _ _ _ _ _ _ _ _ _ _ _
      | exact thicket_order.mono _ _ _
      | exact LeO.none _
      | refine LeO.ite ?_ ?_
      | refine LeO.bind ?_ (fun _ => ?_)
    · intro y0 y1 y2 y3 y4 y5 y6 y7 y8 y9
      unfold thicket_Count.l1
      repeat' first
      | (with_reducible exact ih0 _ _ _ _ _ _)
      | (with_reducible exact ih1 _ _ _ _ _ _ _)
      | (with_reducible exact ih2 _ _ _ _ _ _ _ _ _ _)
      | (with_reducible exact ih3 _ _ _ _ _ _ _ _ _ _ _ _ _ _)
      | (with_reducible exact thicket_order.mono _ _ _)
      | (with_reducible exact LeO.refl _)
      | (with_reducible exact LeO.none _)
      | (with_reducible refine LeO.ite ?_ ?_)
      | (with_reducible refine LeO.bind ?_ (fun _ => ?_))
      | exact ih0 _ _ _ _ _ _
      | exact ih1 _ _ _ _ _ _ _
      | exact ih2 _ _ _ _ _ _ _ _ _ _
      | exact ih3 _ _ _ _ _ _ _ _ _ _ _ _ _ _
      | exact thicket_order.mono _ _ _
      | exact LeO.none _
      | refine LeO.ite ?_ ?_
      | refine LeO.bind ?_ (fun _ => ?_)
    · intro y0 y1 y2 y3 y4 y5 y6 y7 y8 y9 y10 y11 y12 y13
      unfold thicket_Count.l2
      repeat' first
      | (with_reducible exact ih0 _ _ _ _ _ _)
      | (with_reducible exact ih1 _ _ _ _ _ _ _)
      | (with_reducible exact ih2 _ _ _ _ _ _ _ _ _ _)
      | (with_reducible exact ih3 _ _ _ _ _ _ _ _ _ _ _ _ _ _)
      | (with_reducible exact thicket_order.mono _ _ _)
      | (with_reducible exact LeO.refl _)
      | (with_reducible exact LeO.none _)
      | (with_reducible refine LeO.ite ?_ ?_)
      | (with_reducible refine LeO.bind ?_ (fun _ => ?_))
      | exact ih0 _ _ _ _ _ _
      | exact ih1 _ _ _ _ _ _ _
      | exact ih2 _ _ _ _ _ _ _ _ _ _
      | exact ih3 _ _ _ _ _ _ _ _ _ _ _ _ _ _
      | exact thicket_order.mono _ _ _
      | exact LeO.none _
      | refine LeO.ite ?_ ?_
      | refine LeO.bind ?_ (fun _ => ?_)
theorem thicket_Count.mono : ∀ a0 a1 k, LeO (thicket_Count.f k a0 a1) (thicket_Count.f (k + 1) a0 a1) := by
  intro a0 a1 k
  obtain ⟨ih0, ih1, ih2, ih3⟩ := thicket_Count.mono_l k
  unfold thicket_Count.f
  repeat' first
      | (with_reducible exact ih0 _ _ _ _ _ _)
      | (with_reducible exact ih1 _ _ _ _ _ _ _)
      | (with_reducible exact ih2 _ _ _ _ _ _ _ _ _ _)
      | (with_reducible exact ih3 _ _ _ _ _ _ _ _ _ _ _ _ _ _)
      | (with_reducible exact thicket_order.mono _ _ _)
      | (with_reducible exact LeO.refl _)
      | (with_reducible exact LeO.none _)
      | (with_reducible refine LeO.ite ?_ ?_)
      | (with_reducible refine LeO.bind ?_ (fun _ => ?_))
      | exact ih0 _ _ _ _ _ _
      | exact ih1 _ _ _ _ _ _ _
      | exact ih2 _ _ _ _ _ _ _ _ _ _
      | exact ih3 _ _ _ _ _ _ _ _ _ _ _ _ _ _
      | exact thicket_order.mono _ _ _
      | exact LeO.none _
      | refine LeO.ite ?_ ?_
      | refine LeO.bind ?_ (fun _ => ?_)
set_option maxHeartbeats 8000000 in
set_option maxRecDepth 100000 in
theorem thicket_Count.calls (k : Nat) (A0_0 : Option Addr) (c0_0 : Nat) (l0_0 : List (S117)) (a0_1 : Int) (r1 : Int) (r2 : Int) (w : World) (hr0_0 : Kd.C k117 w A0_0 l0_0.length l0_0) (hc0_0 : l0_0.length ≤ c0_0) (h : thicket_Count.f k l0_0 a0_1 = some (r1, r2)) :
    Calls Try.prog 110 #[.agg #[.slice A0_0 l0_0.length c0_0, .int .i64 a0_1]] w fun e w' => e = .returned (.tuple #[.int .i64 r1, .int .i64 r2]) ∧ Below w.heap.size w w' := by
  have hu39 := Try.underlying39
  have HR0_0 := Aside0.mk hr0_0
  have HC0_0 := Aside0.mk hc0_0
  clear hr0_0 hc0_0
  have HB := Aside0.mk (Below.refl w.heap.size w)
  have H : ((thicket_order.f k l0_0 a0_1).bind fun bt121 => (if bt121.2 = true then (if 0 ≤ (l0_0.length : Int) then (if ((l0_0.length : Int) : Int).toNat ≤ 35184372088832 then (thicket_Count.l0 k bt121.1 (List.replicate ((l0_0.length : Int) : Int).toNat 0) (bt121.1.length : Int) 0 l0_0 a0_1) else (none)) else (none)) else (some (0, 3)))) = some (r1, r2) := h
  clear h
  replace H := Option.bind_eq_some_iff.mp H
  obtain ⟨⟨t121, t124⟩, A20, H⟩ := H
  replace H : (if t124 = true then (if 0 ≤ (l0_0.length : Int) then (if ((l0_0.length : Int) : Int).toNat ≤ 35184372088832 then (thicket_Count.l0 k t121 (List.replicate ((l0_0.length : Int) : Int).toNat 0) (t121.length : Int) 0 l0_0 a0_1) else (none)) else (none)) else (some (0, 3))) = some (r1, r2) := H
  have A2 := Aside0.mk A20
  clear A20
  by_cases c3 : t124 = true
  · subst c3
    have H1 : (if 0 ≤ (l0_0.length : Int) then (if ((l0_0.length : Int) : Int).toNat ≤ 35184372088832 then (thicket_Count.l0 k t121 (List.replicate ((l0_0.length : Int) : Int).toNat 0) (t121.length : Int) 0 l0_0 a0_1) else (none)) else (none)) = some (r1, r2) := by rw [if_pos rfl] at H; exact H
    clear H
    have H := H1
    clear H1
    by_cases c4 : 0 ≤ (l0_0.length : Int)
    · rw [if_pos c4] at H
      have c4b0 := eq_true c4
      have c4b1 : decide (0 ≤ (l0_0.length : Int)) = true := decide_eq_true c4
      clear c4
      by_cases c5 : ((l0_0.length : Int) : Int).toNat ≤ 35184372088832
      · rw [if_pos c5] at H
        have c5b0 := eq_true c5
        have c5b1 : decide (((l0_0.length : Int) : Int).toNat ≤ 35184372088832) = true := decide_eq_true c5
        clear c5
        obtain ⟨y125, hy125⟩ : ∃ y_ : List Int, y_ = (List.replicate ((l0_0.length : Int) : Int).toNat 0) := ⟨_, rfl⟩
        replace H : (thicket_Count.l0 k t121 y125 (t121.length : Int) 0 l0_0 a0_1) = some (r1, r2) := by first | (rw [hy125]; with_reducible exact H) | (have H2_ := (Option.bind_some _ _).symm.trans H; rw [hy125]; with_reducible exact H2_) | (have H2_ := (Option.bind_some _ _).symm.trans H; with_reducible exact H2_) | with_reducible exact H | (rw [hy125]; exact H) | exact H
        have Ny125 := Aside0.mk hy125
        clear hy125
        have H' := Aside0.mk H
        clear H
        go_enter Try.func110, Try.ntmps110
        go_wp2_with (first | ((with_reducible refine gate_dst (N := 1) rfl ?_); refine box_event ?hg (N := 1) ?hd (cs := #[.slice A0_0 l0_0.length c0_0, .int .i64 a0_1]) (t := 39) ?hr ?_; (case hd => rfl); (case hg => rfl); (case hr => first | (go_simp; done) | (go_simp; rfl)); intro gb120 hg w6 hbox hb; have n0_ := Aside0.mk (below_step (by repeat (first | (with_reducible first | exact HB.out | apply below_alloc | apply pw_below_drewN | apply below_drew1) | exact HB.out)) hb); have n1_ := Aside0.mk (hbox); have n2_ := Aside0.mk ((by rw [hg]; exact (below_size (by repeat (first | (with_reducible first | exact HB.out | apply below_alloc | apply pw_below_drewN | apply below_drew1) | exact HB.out))) : w.heap.size ≤ gb120)); have n3_ := Aside0.mk ((by rw [hg]; exact (below_size (by repeat (first | (with_reducible first | exact HB.out | apply below_alloc | apply pw_below_drewN | apply below_drew1) | exact HB.out))) : w.heap.size ≤ gb120)); clear HB; have HB := n0_; have BK120 := n1_; have GW120 := n2_; have GE120 := n3_; clear n0_ n1_ n2_ n3_; clear hb hbox hg; have hcz7_0 : w6.cell? ⟨gb120, 0, none⟩ = some (.slice A0_0 l0_0.length c0_0) := (blk_cell BK120.out 0).trans rfl; have hcz7_1 : w6.cell? ⟨gb120, 1, none⟩ = some (.int .i64 a0_1) := (blk_cell BK120.out 1).trans rfl; have hfz7_0 := blk_frozen BK120.out 0; have hfz7_1 := blk_frozen BK120.out 1) | ((with_reducible refine gate_callee (f := 134) rfl ?_); refine goesL_ (some 16) rfl rfl Try.func134 (by kernel_rfl) rfl #[.agg #[.slice A0_0 l0_0.length c0_0, .int .i64 a0_1]] rfl (by (try simp only [List.map_toArray, List.map_cons, List.map_nil]); first | done | rfl | (simp only [List.length_drop, List.length_take]; rfl)) ?_; (with_reducible refine (thicket_order.calls k _ _ l0_0 a0_1 t121 true _ ?side1 ?side2 A2.out).mono ?_); (case side1 => repeat (first | exact (Kd.C_below HR0_0.out HB.out) | (with_reducible refine Kd.C_alloc ?_ _) | (with_reducible refine Kd.C_drewN ?_ _) | (with_reducible refine Kd.C_drew ?_))); (case side2 => exact HC0_0.out); rintro e w8 ⟨v122, rfl, ho0, hb⟩; refine ⟨_, rfl, ?_⟩; have n0_ := Aside0.mk (Kd.R_lower ho0 (below_size (by repeat (first | (with_reducible first | exact HB.out | apply below_alloc | apply pw_below_drewN | apply below_drew1 | refine below_set ?_ GE120.out) | exact HB.out)))); have n1_ := Aside0.mk (blk_below (g := gb120) (o := .cells #[.slice A0_0 l0_0.length c0_0, .int .i64 a0_1] 39 (0, 0)) (by (with_reducible repeat (first | refine blk_drewN ?_ _ | refine blk_drew ?_ | refine blk_alloc ?_ _)); exact BK120.out) hb); have n2_ := Aside0.mk (below_step (by repeat (first | (with_reducible first | exact HB.out | apply below_alloc | apply pw_below_drewN | apply below_drew1 | refine below_set ?_ GE120.out) | exact HB.out)) hb); clear BK120; clear HB; have HO123 := n0_; have BK120 := n1_; have HB := n2_; clear n0_ n1_ n2_; (try clear hb); (try clear hb2); (try clear hk); (try clear hi); (try clear ho0); have hcz9_0 : w8.cell? ⟨gb120, 0, none⟩ = some (.slice A0_0 l0_0.length c0_0) := (blk_cell BK120.out 0).trans rfl; have hcz9_1 : w8.cell? ⟨gb120, 1, none⟩ = some (.int .i64 a0_1) := (blk_cell BK120.out 1).trans rfl; have hfz9_0 := blk_frozen BK120.out 0; have hfz9_1 := blk_frozen BK120.out 1) | ((with_reducible refine gate_dst (N := 24) rfl ?_); refine Kd.R_make (Kd.int .i64) _ 2 rfl (N := 24) rfl 195 _ _ rfl (l0_0.length : Int) rfl rfl Try.underlying195 (.int .i64 0) 8 info2 rfl (by decide) (by omega) 0 (ok := fun _ => True) (okp := fun _ => True) rfl (fun _ hk => hk) trivial (of_decide_eq_true (by first | (with_reducible assumption) | assumption)) (Nat.le_trans (Nat.mul_le_mul_right _ (of_decide_eq_true (by first | (with_reducible assumption) | assumption) : (l0_0.length : Int).toNat ≤ 35184372088832)) (by omega)) (Below.refl _ _) (Nat.le_refl _) ?_; intro v126 w10 ho11 hb hg_ hnew_; clear hg_ hnew_; (first | rw [← Ny125.out] at ho11 | (simp only [Int.reduceToNat] at ho11; rw [← Ny125.out] at ho11)); have n0_ := Aside0.mk (Kd.R_below (by (with_reducible repeat (first | apply Kd.R_alloc | apply Kd.R_drewN | apply Kd.R_drew)); exact HO123.out) hb); have n1_ := Aside0.mk (Kd.R_lower ho11 (below_size (by repeat (first | (with_reducible first | exact HB.out | apply below_alloc | apply pw_below_drewN | apply below_drew1 | refine below_set ?_ GE120.out) | exact HB.out)))); have n2_ := Aside0.mk (blk_below (g := gb120) (o := .cells #[.slice A0_0 l0_0.length c0_0, .int .i64 a0_1] 39 (0, 0)) (by (with_reducible repeat (first | refine blk_drewN ?_ _ | refine blk_drew ?_ | refine blk_alloc ?_ _)); exact BK120.out) hb); have n3_ := Aside0.mk (below_step (by repeat (first | (with_reducible first | exact HB.out | apply below_alloc | apply pw_below_drewN | apply below_drew1 | refine below_set ?_ GE120.out) | exact HB.out)) hb); clear HO123; clear BK120; clear HB; have HO123 := n0_; have HO127 := n1_; have BK120 := n2_; have HB := n3_; clear n0_ n1_ n2_ n3_; clear hb ho11; obtain ⟨Ao12, co12, eo12⟩ := Kd.R_slice HO123.out; subst eo12))
        go_loopg [27] k (fun kq v27 w' => ∃ (x6_1 : List Int) (x27_1 : Int), v27 = .int .i64 x27_1 ∧ Aside0 (thicket_Count.l0 kq t121 x6_1 (t121.length : Int) x27_1 l0_0 a0_1 = some (r1, r2)) ∧ Aside0 (kq ≤ k) ∧ Aside0 (Kd.R (Kd.int .i64) 3 w' w.heap.size (fun _ => True) (.slice Ao12 t121.length co12) t121) ∧ Aside0 (Kd.R (Kd.int .i64) 2 w' w.heap.size (fun _ => True) v126 x6_1) ∧ Aside0 (w'.heap[gb120]? = some (.cells #[(.slice A0_0 l0_0.length c0_0), .int .i64 a0_1] 39 (0, 0))) ∧ Aside0 (Below w.heap.size w w'))
        case atStart => exact ⟨(y125), (0), (by first | rfl | (simp; done) | (simp [*]; done)), H', ⟨Nat.le_refl _⟩, ⟨by (with_reducible repeat (first | apply Kd.R_alloc | apply Kd.R_drewN | apply Kd.R_drew)); exact HO123.out⟩, ⟨by (with_reducible repeat (first | apply Kd.R_alloc | apply Kd.R_drewN | apply Kd.R_drew)); exact HO127.out⟩, ⟨by (with_reducible repeat (first | refine blk_drewN ?_ _ | refine blk_drew ?_ | refine blk_alloc ?_ _)); exact BK120.out⟩, ⟨by repeat (first | (with_reducible first | exact HB.out | apply below_alloc | apply pw_below_drewN | apply below_drew1 | refine below_set ?_ GE120.out) | exact HB.out)⟩⟩
        case round =>
          clear H'
          try clear c1
          try clear p2
          try clear c3
          try clear c4
          try clear c4b0
          try clear c4b1
          try clear c5
          try clear c5b0
          try clear c5b1
          try clear c11
          try clear hcz7_0
          try clear hcz7_1
          try clear hcz9_0
          try clear hcz9_1
          try clear hfz7_0
          try clear hfz7_1
          try clear hfz9_0
          try clear hfz9_1
          obtain ⟨x6_1, x27_1, rfl, HA, HK1, HO_4, HO_6, BK120, HB⟩ := hrel
          cases gk with
          | zero => exact absurd HA.out (by simp [thicket_Count.l0])
          | succ k1 =>
            have H := HA.out
            clear HA
            simp only [thicket_Count.l0] at H
            by_cases c13 : x27_1 < (t121.length : Int)
            · rw [if_pos c13] at H
              have c13b0 : decide (x27_1 < (t121.length : Int)) = true := decide_eq_true c13
              clear c13
              by_cases c14 : 0 ≤ x27_1
              · rw [if_pos c14] at H
                have c14b0 : decide (0 ≤ x27_1) = true := decide_eq_true c14
                clear c14
                by_cases c15 : x27_1 < (t121.length : Int)
                · rw [if_pos c15] at H
                  have c15b0 : decide (x27_1 < (t121.length : Int)) = true := decide_eq_true c15
                  clear c15
                  by_cases c16 : 0 ≤ (rd t121 x27_1)
                  · rw [if_pos c16] at H
                    have c16b0 : decide (0 ≤ (rd t121 x27_1)) = true := decide_eq_true c16
                    clear c16
                    by_cases c17 : (rd t121 x27_1) < (l0_0.length : Int)
                    · rw [if_pos c17] at H
                      have c17b0 : decide ((rd t121 x27_1) < (l0_0.length : Int)) = true := decide_eq_true c17
                      clear c17
                      have HC18 := Aside0.mk H
                      clear H
                      have p130 : 0 ≤ (x27_1 : Int) := of_decide_eq_true (by first | (with_reducible assumption) | assumption)
                      have q130 : x27_1 < (t121.length : Int) := of_decide_eq_true (by first | (with_reducible assumption) | assumption)
                      obtain ⟨ad130, e130, hx130_0⟩ := Kd.at_int (Kd.R_reads' HO_4.out).2.2 x27_1 p130 q130
                      cases e130
                      replace p130 := eq_true p130
                      replace q130 := eq_true q130
                      have hcz19_0 : wr.cell? ⟨gb120, 0, none⟩ = some (.slice A0_0 l0_0.length c0_0) := (blk_cell BK120.out 0).trans rfl
                      have hcz19_1 : wr.cell? ⟨gb120, 1, none⟩ = some (.int .i64 a0_1) := (blk_cell BK120.out 1).trans rfl
                      have hfz19_0 := blk_frozen BK120.out 0
                      have hfz19_1 := blk_frozen BK120.out 1
                      have p131 : 0 ≤ ((rd t121 x27_1) : Int) := of_decide_eq_true (by first | (with_reducible assumption) | assumption)
                      have q131 : (rd t121 x27_1) < (l0_0.length : Int) := of_decide_eq_true (by first | (with_reducible assumption) | assumption)
                      obtain ⟨ad131, A131_3, c131_3, e131, hx131_0, hx131_1, hx131_2, hx131_3, hl131_3, hi131_3⟩ := at_T117 HR0_0.out (rd t121 x27_1) p131 q131
                      cases e131
                      replace hx131_0 := (HB.out.cell (World.block_lt_of_cell? w _ hx131_0)).trans hx131_0
                      replace hx131_1 := (HB.out.cell (World.block_lt_of_cell? w _ hx131_1)).trans hx131_1
                      replace hx131_2 := (HB.out.cell (World.block_lt_of_cell? w _ hx131_2)).trans hx131_2
                      replace hx131_3 := (HB.out.cell (World.block_lt_of_cell? w _ hx131_3)).trans hx131_3
                      have HR131_3 := Aside0.mk hi131_3
                      have HC131_3 := Aside0.mk hl131_3
                      clear hi131_3 hl131_3
                      replace p131 := eq_true p131
                      replace q131 := eq_true q131
                      go_upto_if 38 with (fail)
                      go_cut [] (fun wc => ∃ (kq : Nat) (x6_17 : List Int), Aside0 (thicket_Count.j1 kq t121 x6_17 (rd t121 x27_1) (t121.length : Int) x27_1 l0_0 a0_1 = some (r1, r2)) ∧ Aside0 (kq ≤ k1) ∧ Aside0 (Kd.R (Kd.int .i64) 3 wc w.heap.size (fun _ => True) (.slice (some ad130) t121.length co12) t121) ∧ Aside0 (Kd.R (Kd.int .i64) 2 wc w.heap.size (fun _ => True) v126 x6_17) ∧ Aside0 (wc.heap[gb120]? = some (.cells #[(.slice (some ad131) l0_0.length c0_0), .int .i64 a0_1] 39 (0, 0))) ∧ Aside0 (Below w.heap.size w wc))
                      case first =>
                        have H := HC18.out
                        clear HC18
                        by_cases c20 : (((rd_T117 l0_0 (rd t121 x27_1)).f3).length : Int) = 0
                        · rw [if_pos c20] at H
                          have c20b0 : ((((rd_T117 l0_0 (rd t121 x27_1)).f3).length : Int) == 0) = true := beq_iff_eq.mpr c20
                          have c20b1 : ((((rd_T117 l0_0 (rd t121 x27_1)).f3).length : Int) != 0) = false := bne_eq_false_iff_eq.mpr c20
                          clear c20
                          (first | rw [c20b0] | (simp only [i64_w, i32_w]; rw [c20b0]) | skip)
                          by_cases c21 : (rd t121 x27_1) < (x6_1.length : Int)
                          · rw [if_pos c21] at H
                            have c21b0 : decide ((rd t121 x27_1) < (x6_1.length : Int)) = true := decide_eq_true c21
                            clear c21
                            obtain ⟨y132, hy132⟩ : ∃ y_ : List Int, y_ = (x6_1.set ((rd t121 x27_1) : Int).toNat 1) := ⟨_, rfl⟩
                            replace H : (thicket_Count.j1 k1 t121 y132 (rd t121 x27_1) (t121.length : Int) x27_1 l0_0 a0_1) = some (r1, r2) := by first | (rw [hy132]; with_reducible exact H) | (have H2_ := (Option.bind_some _ _).symm.trans H; rw [hy132]; with_reducible exact H2_) | (have H2_ := (Option.bind_some _ _).symm.trans H; with_reducible exact H2_) | with_reducible exact H | (rw [hy132]; exact H) | exact H
                            have Ny132 := Aside0.mk hy132
                            clear hy132
                            have H' := Aside0.mk H
                            clear H
                            have p22 : 0 ≤ ((rd t121 x27_1) : Int) := of_decide_eq_true (by first | (with_reducible assumption) | assumption)
                            have q22 : ((rd t121 x27_1) : Int) < ((x6_1.length : Int) : Int) := of_decide_eq_true (by first | (with_reducible assumption) | assumption)
                            obtain ⟨go22, co22, eo22, gb22, gl22, cl22, HG22⟩ := Kd.R_form HO_6.out (by omega)
                            (first | cases eo22 | (injection eo22 with ea_ en_ ec_; (first | subst ea_ | (injection ea_ with ea_; subst ea_)); subst ec_; clear en_))
                            have GB22 := Aside0.mk gb22
                            have GG22 := Aside0.mk HG22
                            clear gb22 gl22 HG22
                            obtain ⟨hx22_0, hf22_0⟩ := Kd.R_celln 0 HO_6.out ((rd t121 x27_1) : Int) p22 q22
                            replace p22 := eq_true p22
                            replace q22 := eq_true q22
                            have HP23 := Kd.R_putg HO_6.out ((rd t121 x27_1) : Int) 1
                            go_wp2_with (first | ((with_reducible refine gate_store (t := 2) (p := 41) rfl ?_); refine store_event (t := 2) (p := 41) (v := ?vo_w24) (w1 := (wr.setCell ⟨go22, ((rd t121 x27_1) : Int).toNat, none⟩ (.int .i64 1))) ?hg ?ho ?hn ?hr ?_; (case ho => rfl); (case hg => rfl); (case hn => rfl); (case hr => first | (go_simp; done) | (go_simp; rfl)); intro w24 hw; have hg : wr.grownBy w24 (some go22) := (by rw [hw]; exact HP23.2); have hp_ : Kd.R (Kd.int .i64) 2 w24 w.heap.size (fun _ => True) (.slice (some ⟨go22, 0, none⟩) x6_1.length co22) y132 := (by rw [hw, Ny132.out]; exact HP23.1); clear HP23; have n0_ := Aside0.mk (Kd.R_over' (v := (.slice (some ⟨go22, 0, none⟩) x6_1.length co22)) (by (with_reducible repeat (first | apply Kd.R_alloc | apply Kd.R_drewN | apply Kd.R_drew)); exact HO_4.out) (Kd.R_typed HO_6.out) (by decide) hg); have n1_ := Aside0.mk (hp_); have n2_ := Aside0.mk (blk_grown (g := gb120) (o := .cells #[.slice (some ad131) l0_0.length c0_0, .int .i64 a0_1] 39 (0, 0)) (by (with_reducible repeat (first | refine blk_drewN ?_ _ | refine blk_drew ?_ | refine blk_alloc ?_ _)); exact BK120.out) hg (Kd.R_ne HO_6.out BK120.out (by decide))); have n3_ := Aside0.mk ((by rw [hw]; exact below_set (HB.out) GB22.out : Below w.heap.size w w24)); clear HO_4; clear HO_6; clear BK120; clear HB; have HO_4 := n0_; have HO_6 := n1_; have BK120 := n2_; have HB := n3_; clear n0_ n1_ n2_ n3_; clear hg hw hp_))
                            go_meet
                            case rel => exact ⟨_, (y132), H', ⟨by have := HK1.out; first | omega | exact Nat.le_refl _⟩, ⟨by (with_reducible repeat (first | apply Kd.R_alloc | apply Kd.R_drewN | apply Kd.R_drew)); exact HO_4.out⟩, ⟨by (with_reducible repeat (first | apply Kd.R_alloc | apply Kd.R_drewN | apply Kd.R_drew)); exact HO_6.out⟩, ⟨by (with_reducible repeat (first | refine blk_drewN ?_ _ | refine blk_drew ?_ | refine blk_alloc ?_ _)); exact BK120.out⟩, ⟨by repeat (first | (with_reducible first | exact HB.out | apply below_alloc | apply pw_below_drewN | apply below_drew1 | refine below_set ?_ GE120.out) | exact HB.out)⟩⟩
                          · rw [if_neg c21] at H
                            exact absurd H (by simp)
                        · rw [if_neg c20] at H
                          have c20b0 : ((((rd_T117 l0_0 (rd t121 x27_1)).f3).length : Int) == 0) = false := beq_eq_false_iff_ne.mpr c20
                          have c20b1 : ((((rd_T117 l0_0 (rd t121 x27_1)).f3).length : Int) != 0) = true := bne_iff_ne.mpr c20
                          have c20b2 : ¬ (((rd_T117 l0_0 (rd t121 x27_1)).f3) = []) := fun h_ => c20 (by rw [h_]; rfl)
                          (first | rw [c20b0] | (simp only [i64_w, i32_w]; rw [c20b0]) | skip)
                          have H' := Aside0.mk H
                          clear H
                          go_wp2
                          go_meet
                          case rel => exact ⟨_, (x6_1), H', ⟨by have := HK1.out; first | omega | exact Nat.le_refl _⟩, ⟨by (with_reducible repeat (first | apply Kd.R_alloc | apply Kd.R_drewN | apply Kd.R_drew)); exact HO_4.out⟩, ⟨by (with_reducible repeat (first | apply Kd.R_alloc | apply Kd.R_drewN | apply Kd.R_drew)); exact HO_6.out⟩, ⟨by (with_reducible repeat (first | refine blk_drewN ?_ _ | refine blk_drew ?_ | refine blk_alloc ?_ _)); exact BK120.out⟩, ⟨by repeat (first | (with_reducible first | exact HB.out | apply below_alloc | apply pw_below_drewN | apply below_drew1 | refine below_set ?_ GE120.out) | exact HB.out)⟩⟩
                      case rest =>
                        clear HC18
                        try clear c1
                        try clear p1
                        try clear q1
                        try clear hx1
                        try clear c2
                        try clear p2
                        try clear q2
                        try clear hx2
                        try clear hf2
                        try clear c3
                        try clear c4
                        try clear c4b0
                        try clear c4b1
                        try clear c5
                        try clear c5b0
                        try clear c5b1
                        try clear c11
                        try clear c13
                        try clear c13b0
                        try clear p13
                        try clear q13
                        try clear hx13
                        try clear c14
                        try clear c14b0
                        try clear c15
                        try clear c15b0
                        try clear c16
                        try clear c16b0
                        try clear c17
                        try clear c17b0
                        try clear c20
                        try clear c20b0
                        try clear c20b1
                        try clear c20b2
                        try clear c21
                        try clear c21b0
                        try clear p22
                        try clear q22
                        try clear hx22
                        try clear hf22
                        try clear hcz19_0
                        try clear hcz19_1
                        try clear hcz7_0
                        try clear hcz7_1
                        try clear hcz9_0
                        try clear hcz9_1
                        try clear hfz19_0
                        try clear hfz19_1
                        try clear hfz7_0
                        try clear hfz7_1
                        try clear hfz9_0
                        try clear hfz9_1
                        try clear hx130_0
                        try clear hx131_0
                        try clear hx131_1
                        try clear hx131_2
                        try clear hx131_3
                        try clear hx22_0
                        try clear p130
                        try clear p131
                        try clear p2
                        try clear p22
                        try clear q130
                        try clear q131
                        try clear q22
                        obtain ⟨kq, x6_17, HA, HJ17, HO_4, HO_6, BK120, HB⟩ := hcut
                        cases kq with
                        | zero => exact absurd HA.out (by simp [thicket_Count.j1])
                        | succ kj17 =>
                          have H := HA.out
                          clear HA
                          simp only [thicket_Count.j1] at H
                          by_cases c25 : 0 ≤ (rd t121 x27_1)
                          · rw [if_pos c25] at H
                            have c25b0 : decide (0 ≤ (rd t121 x27_1)) = true := decide_eq_true c25
                            clear c25
                            by_cases c26 : (rd t121 x27_1) < (l0_0.length : Int)
                            · rw [if_pos c26] at H
                              have c26b0 : decide ((rd t121 x27_1) < (l0_0.length : Int)) = true := decide_eq_true c26
                              clear c26
                              have H' := Aside0.mk H
                              clear H
                              have hcz27_0 : wc.cell? ⟨gb120, 0, none⟩ = some (.slice (some ad131) l0_0.length c0_0) := (blk_cell BK120.out 0).trans rfl
                              have hcz27_1 : wc.cell? ⟨gb120, 1, none⟩ = some (.int .i64 a0_1) := (blk_cell BK120.out 1).trans rfl
                              have hfz27_0 := blk_frozen BK120.out 0
                              have hfz27_1 := blk_frozen BK120.out 1
                              have p133 : 0 ≤ ((rd t121 x27_1) : Int) := of_decide_eq_true (by first | (with_reducible assumption) | assumption)
                              have q133 : (rd t121 x27_1) < (l0_0.length : Int) := of_decide_eq_true (by first | (with_reducible assumption) | assumption)
                              obtain ⟨ad133, A133_3, c133_3, e133, hx133_0, hx133_1, hx133_2, hx133_3, hl133_3, hi133_3⟩ := at_T117 HR0_0.out (rd t121 x27_1) p133 q133
                              try clear hx131_0 hx131_1 hx131_2 hx131_3
                              repeat clear hHeld
                              obtain rfl : ad131 = ad133 := (by injection e133)
                              replace hx133_0 := (HB.out.cell (World.block_lt_of_cell? w _ hx133_0)).trans hx133_0
                              replace hx133_1 := (HB.out.cell (World.block_lt_of_cell? w _ hx133_1)).trans hx133_1
                              replace hx133_2 := (HB.out.cell (World.block_lt_of_cell? w _ hx133_2)).trans hx133_2
                              replace hx133_3 := (HB.out.cell (World.block_lt_of_cell? w _ hx133_3)).trans hx133_3
                              have HR133_3 := Aside0.mk hi133_3
                              have HC133_3 := Aside0.mk hl133_3
                              clear hi133_3 hl133_3
                              replace p133 := eq_true p133
                              replace q133 := eq_true q133
                              go_wp2
                              go_loopg [49] kj17 (fun kq v49 w' => ∃ (x6_3 : List Int) (x49_3 : Int), v49 = .int .i64 x49_3 ∧ Aside0 (thicket_Count.l1 kq t121 x6_3 (rd t121 x27_1) (t121.length : Int) x27_1 ((rd_T117 l0_0 (rd t121 x27_1)).f3) (((rd_T117 l0_0 (rd t121 x27_1)).f3).length : Int) x49_3 l0_0 a0_1 = some (r1, r2)) ∧ Aside0 (kq ≤ kj17) ∧ Aside0 (Kd.R (Kd.int .i64) 3 w' w.heap.size (fun _ => True) (.slice (some ad130) t121.length co12) t121) ∧ Aside0 (Kd.R (Kd.int .i64) 2 w' w.heap.size (fun _ => True) v126 x6_3) ∧ Aside0 (w'.heap[gb120]? = some (.cells #[(.slice (some ad131) l0_0.length c0_0), .int .i64 a0_1] 39 (0, 0))) ∧ Aside0 (Below w.heap.size w w'))
                              case atStart => exact ⟨(x6_17), (0), (by first | rfl | (simp; done) | (simp [*]; done)), H', ⟨Nat.le_refl _⟩, ⟨by (with_reducible repeat (first | apply Kd.R_alloc | apply Kd.R_drewN | apply Kd.R_drew)); exact HO_4.out⟩, ⟨by (with_reducible repeat (first | apply Kd.R_alloc | apply Kd.R_drewN | apply Kd.R_drew)); exact HO_6.out⟩, ⟨by (with_reducible repeat (first | refine blk_drewN ?_ _ | refine blk_drew ?_ | refine blk_alloc ?_ _)); exact BK120.out⟩, ⟨by repeat (first | (with_reducible first | exact HB.out | apply below_alloc | apply pw_below_drewN | apply below_drew1 | refine below_set ?_ GE120.out) | exact HB.out)⟩⟩
                              case round =>
                                clear H'
                                try clear c1
                                try clear p1
                                try clear q1
                                try clear hx1
                                try clear c2
                                try clear p2
                                try clear q2
                                try clear hx2
                                try clear hf2
                                try clear c3
                                try clear c4
                                try clear c4b0
                                try clear c4b1
                                try clear c5
                                try clear c5b0
                                try clear c5b1
                                try clear c11
                                try clear c13
                                try clear c13b0
                                try clear p13
                                try clear q13
                                try clear hx13
                                try clear c14
                                try clear c14b0
                                try clear c15
                                try clear c15b0
                                try clear c16
                                try clear c16b0
                                try clear c17
                                try clear c17b0
                                try clear c20
                                try clear c20b0
                                try clear c20b1
                                try clear c20b2
                                try clear c21
                                try clear c21b0
                                try clear p22
                                try clear q22
                                try clear hx22
                                try clear hf22
                                try clear c25
                                try clear c25b0
                                try clear c26
                                try clear c26b0
                                try clear hcz19_0
                                try clear hcz19_1
                                try clear hcz27_0
                                try clear hcz27_1
                                try clear hcz7_0
                                try clear hcz7_1
                                try clear hcz9_0
                                try clear hcz9_1
                                try clear hfz19_0
                                try clear hfz19_1
                                try clear hfz27_0
                                try clear hfz27_1
                                try clear hfz7_0
                                try clear hfz7_1
                                try clear hfz9_0
                                try clear hfz9_1
                                try clear hx130_0
                                try clear hx131_0
                                try clear hx131_1
                                try clear hx131_2
                                try clear hx131_3
                                try clear hx133_0
                                try clear hx133_1
                                try clear hx133_2
                                try clear hx133_3
                                try clear hx22_0
                                try clear p1
                                try clear p13
                                try clear p130
                                try clear p131
                                try clear p133
                                try clear p2
                                try clear p22
                                try clear q1
                                try clear q13
                                try clear q130
                                try clear q131
                                try clear q133
                                try clear q2
                                try clear q22
                                obtain ⟨x6_3, x49_3, rfl, HA, HK3, HO_4, HO_6, BK120, HB⟩ := hrel
                                cases gk with
                                | zero => exact absurd HA.out (by simp [thicket_Count.l1])
                                | succ k3 =>
                                  have H := HA.out
                                  clear HA
                                  simp only [thicket_Count.l1] at H
                                  by_cases c28 : x49_3 < (((rd_T117 l0_0 (rd t121 x27_1)).f3).length : Int)
                                  · rw [if_pos c28] at H
                                    have c28b0 : decide (x49_3 < (((rd_T117 l0_0 (rd t121 x27_1)).f3).length : Int)) = true := decide_eq_true c28
                                    clear c28
                                    by_cases c29 : 0 ≤ x49_3
                                    · rw [if_pos c29] at H
                                      have c29b0 : decide (0 ≤ x49_3) = true := decide_eq_true c29
                                      clear c29
                                      by_cases c30 : x49_3 < (((rd_T117 l0_0 (rd t121 x27_1)).f3).length : Int)
                                      · rw [if_pos c30] at H
                                        have c30b0 : decide (x49_3 < (((rd_T117 l0_0 (rd t121 x27_1)).f3).length : Int)) = true := decide_eq_true c30
                                        clear c30
                                        obtain ⟨ji31, hji31⟩ : ∃ j_ : Int, (mn 1 ((rd_L1 ((rd_T117 l0_0 (rd t121 x27_1)).f3) x49_3).length : Int)) = j_ := ⟨_, rfl⟩
                                        replace H : (if 0 ≤ (ji31) then (if (ji31) ≤ ((rd_L1 ((rd_T117 l0_0 (rd t121 x27_1)).f3) x49_3).length : Int) then (thicket_Count.l2 k3 t121 x6_3 (rd t121 x27_1) 1 (t121.length : Int) x27_1 ((rd_T117 l0_0 (rd t121 x27_1)).f3) (((rd_T117 l0_0 (rd t121 x27_1)).f3).length : Int) x49_3 ((rd_L1 ((rd_T117 l0_0 (rd t121 x27_1)).f3) x49_3).drop ((ji31) : Int).toNat) (((rd_L1 ((rd_T117 l0_0 (rd t121 x27_1)).f3) x49_3).drop ((ji31) : Int).toNat).length : Int) 0 l0_0 a0_1) else (none)) else (none)) = some (r1, r2) := by first | (rw [hji31] at H; exact H) | (simp only [hji31] at H ⊢; exact H)
                                        have hji31_ : (if ((rd_L1 ((rd_T117 l0_0 (rd t121 x27_1)).f3) x49_3).length : Int) < 1 then ((rd_L1 ((rd_T117 l0_0 (rd t121 x27_1)).f3) x49_3).length : Int) else 1) = ji31 := hji31
                                        by_cases c32 : 0 ≤ (ji31)
                                        · rw [if_pos c32] at H
                                          have c32b0 := eq_true c32
                                          have c32b1 : decide (0 ≤ (ji31)) = true := decide_eq_true c32
                                          clear c32
                                          by_cases c33 : (ji31) ≤ ((rd_L1 ((rd_T117 l0_0 (rd t121 x27_1)).f3) x49_3).length : Int)
                                          · rw [if_pos c33] at H
                                            have c33b0 := eq_true c33
                                            have c33b1 : decide ((ji31) ≤ ((rd_L1 ((rd_T117 l0_0 (rd t121 x27_1)).f3) x49_3).length : Int)) = true := decide_eq_true c33
                                            clear c33
                                            have H' := Aside0.mk H
                                            clear H
                                            have p134 : 0 ≤ (x49_3 : Int) := of_decide_eq_true (by first | (with_reducible assumption) | assumption)
                                            have q134 : x49_3 < (((rd_T117 l0_0 (rd t121 x27_1)).f3).length : Int) := of_decide_eq_true (by first | (with_reducible assumption) | assumption)
                                            obtain ⟨ad134, A134_0, c134_0, e134, hx134_0, hl134_0, hi134_0⟩ := at_L1 HR133_3.out x49_3 p134 q134
                                            cases e134
                                            replace hx134_0 := (HB.out.cell (World.block_lt_of_cell? w _ hx134_0)).trans hx134_0
                                            have HR134_0 := Aside0.mk hi134_0
                                            have HC134_0 := Aside0.mk hl134_0
                                            clear hi134_0 hl134_0
                                            replace p134 := eq_true p134
                                            replace q134 := eq_true q134
                                            obtain ⟨i034, hi034, _, hsz34, _⟩ := info_parts info3
                                            obtain ⟨A34, hcut34, hA34, hC34⟩ := print_drop_of (P := Try.prog) (Value.int .i64) 0 23 3 .i64 Try.underlying23 hi034 hsz34 A134_0 c134_0 (rd_L1 ((rd_T117 l0_0 (rd t121 x27_1)).f3) x49_3) (ji31) (of_decide_eq_true (by first | (with_reducible assumption) | assumption)) (of_decide_eq_true (by first | (with_reducible assumption) | assumption)) HC134_0.out
                                            have HR135 := Aside0.mk (Kd.C_of_reads (h1 := fun _ => rfl) (hA34 _ (Kd.reads_of_C HR134_0.out)))
                                            have HC135 := Aside0.mk hC34
                                            clear hA34 hC34 hi034 hsz34
                                            go_wp2
                                            go_loopg [11, 59] k3 (fun kq v11 v59 w' => ∃ (x11_4 : Int) (x59_4 : Int), v11 = .int .i64 x11_4 ∧ v59 = .int .i64 x59_4 ∧ Aside0 (thicket_Count.l2 kq t121 x6_3 (rd t121 x27_1) x11_4 (t121.length : Int) x27_1 ((rd_T117 l0_0 (rd t121 x27_1)).f3) (((rd_T117 l0_0 (rd t121 x27_1)).f3).length : Int) x49_3 ((rd_L1 ((rd_T117 l0_0 (rd t121 x27_1)).f3) x49_3).drop ((ji31) : Int).toNat) (((rd_L1 ((rd_T117 l0_0 (rd t121 x27_1)).f3) x49_3).drop ((ji31) : Int).toNat).length : Int) x59_4 l0_0 a0_1 = some (r1, r2)) ∧ Aside0 (kq ≤ k3) ∧ Aside0 (Kd.R (Kd.int .i64) 3 w' w.heap.size (fun _ => True) (.slice (some ad130) t121.length co12) t121) ∧ Aside0 (Kd.R (Kd.int .i64) 2 w' w.heap.size (fun _ => True) v126 x6_3) ∧ Aside0 (w'.heap[gb120]? = some (.cells #[(.slice (some ad131) l0_0.length c0_0), .int .i64 a0_1] 39 (0, 0))) ∧ Aside0 (Below w.heap.size w w'))
                                            case atStart => exact ⟨(1), (0), (by first | rfl | (simp; done) | (simp [*]; done)), (by first | rfl | (simp; done) | (simp [*]; done)), H', ⟨Nat.le_refl _⟩, ⟨by (with_reducible repeat (first | apply Kd.R_alloc | apply Kd.R_drewN | apply Kd.R_drew)); exact HO_4.out⟩, ⟨by (with_reducible repeat (first | apply Kd.R_alloc | apply Kd.R_drewN | apply Kd.R_drew)); exact HO_6.out⟩, ⟨by (with_reducible repeat (first | refine blk_drewN ?_ _ | refine blk_drew ?_ | refine blk_alloc ?_ _)); exact BK120.out⟩, ⟨by repeat (first | (with_reducible first | exact HB.out | apply below_alloc | apply pw_below_drewN | apply below_drew1 | refine below_set ?_ GE120.out) | exact HB.out)⟩⟩
                                            case round =>
                                              clear H'
                                              try clear c1
                                              try clear p1
                                              try clear q1
                                              try clear hx1
                                              try clear c2
                                              try clear p2
                                              try clear q2
                                              try clear hx2
                                              try clear hf2
                                              try clear c3
                                              try clear c4
                                              try clear c4b0
                                              try clear c4b1
                                              try clear c5
                                              try clear c5b0
                                              try clear c5b1
                                              try clear c11
                                              try clear c13
                                              try clear c13b0
                                              try clear p13
                                              try clear q13
                                              try clear hx13
                                              try clear c14
                                              try clear c14b0
                                              try clear c15
                                              try clear c15b0
                                              try clear c16
                                              try clear c16b0
                                              try clear c17
                                              try clear c17b0
                                              try clear c20
                                              try clear c20b0
                                              try clear c20b1
                                              try clear c20b2
                                              try clear c21
                                              try clear c21b0
                                              try clear p22
                                              try clear q22
                                              try clear hx22
                                              try clear hf22
                                              try clear c25
                                              try clear c25b0
                                              try clear c26
                                              try clear c26b0
                                              try clear c28
                                              try clear c28b0
                                              try clear c29
                                              try clear c29b0
                                              try clear c30
                                              try clear c30b0
                                              try clear c32
                                              try clear c32b0
                                              try clear c32b1
                                              try clear c33
                                              try clear c33b0
                                              try clear c33b1
                                              try clear hcz19_0
                                              try clear hcz19_1
                                              try clear hcz27_0
                                              try clear hcz27_1
                                              try clear hcz7_0
                                              try clear hcz7_1
                                              try clear hcz9_0
                                              try clear hcz9_1
                                              try clear hfz19_0
                                              try clear hfz19_1
                                              try clear hfz27_0
                                              try clear hfz27_1
                                              try clear hfz7_0
                                              try clear hfz7_1
                                              try clear hfz9_0
                                              try clear hfz9_1
                                              try clear hx130_0
                                              try clear hx131_0
                                              try clear hx131_1
                                              try clear hx131_2
                                              try clear hx131_3
                                              try clear hx133_0
                                              try clear hx133_1
                                              try clear hx133_2
                                              try clear hx133_3
                                              try clear hx134_0
                                              try clear hx22_0
                                              try clear p1
                                              try clear p13
                                              try clear p130
                                              try clear p131
                                              try clear p133
                                              try clear p134
                                              try clear p2
                                              try clear p22
                                              try clear q1
                                              try clear q13
                                              try clear q130
                                              try clear q131
                                              try clear q133
                                              try clear q134
                                              try clear q2
                                              try clear q22
                                              obtain ⟨x11_4, x59_4, rfl, rfl, HA, HK4, HO_4, HO_6, BK120, HB⟩ := hrel
                                              cases gk with
                                              | zero => exact absurd HA.out (by simp [thicket_Count.l2])
                                              | succ k4 =>
                                                have H := HA.out
                                                clear HA
                                                simp only [thicket_Count.l2] at H
                                                by_cases c35 : x59_4 < (((rd_L1 ((rd_T117 l0_0 (rd t121 x27_1)).f3) x49_3).drop ((ji31) : Int).toNat).length : Int)
                                                · rw [if_pos c35] at H
                                                  have c35b0 : decide (x59_4 < (((rd_L1 ((rd_T117 l0_0 (rd t121 x27_1)).f3) x49_3).drop ((ji31) : Int).toNat).length : Int)) = true := decide_eq_true c35
                                                  clear c35
                                                  by_cases c36 : 0 ≤ x59_4
                                                  · rw [if_pos c36] at H
                                                    have c36b0 : decide (0 ≤ x59_4) = true := decide_eq_true c36
                                                    clear c36
                                                    by_cases c37 : x59_4 < (((rd_L1 ((rd_T117 l0_0 (rd t121 x27_1)).f3) x49_3).drop ((ji31) : Int).toNat).length : Int)
                                                    · rw [if_pos c37] at H
                                                      have c37b0 : decide (x59_4 < (((rd_L1 ((rd_T117 l0_0 (rd t121 x27_1)).f3) x49_3).drop ((ji31) : Int).toNat).length : Int)) = true := decide_eq_true c37
                                                      clear c37
                                                      by_cases c38 : 0 ≤ (rd ((rd_L1 ((rd_T117 l0_0 (rd t121 x27_1)).f3) x49_3).drop ((ji31) : Int).toNat) x59_4)
                                                      · rw [if_pos c38] at H
                                                        have c38b0 : decide (0 ≤ (rd ((rd_L1 ((rd_T117 l0_0 (rd t121 x27_1)).f3) x49_3).drop ((ji31) : Int).toNat) x59_4)) = true := decide_eq_true c38
                                                        clear c38
                                                        by_cases c39 : (rd ((rd_L1 ((rd_T117 l0_0 (rd t121 x27_1)).f3) x49_3).drop ((ji31) : Int).toNat) x59_4) < (x6_3.length : Int)
                                                        · rw [if_pos c39] at H
                                                          have c39b0 : decide ((rd ((rd_L1 ((rd_T117 l0_0 (rd t121 x27_1)).f3) x49_3).drop ((ji31) : Int).toNat) x59_4) < (x6_3.length : Int)) = true := decide_eq_true c39
                                                          clear c39
                                                          by_cases c40 : (rd x6_3 (rd ((rd_L1 ((rd_T117 l0_0 (rd t121 x27_1)).f3) x49_3).drop ((ji31) : Int).toNat) x59_4)) > 0
                                                          · rw [if_pos c40] at H
                                                            have c40b0 : decide (0 < (rd x6_3 (rd ((rd_L1 ((rd_T117 l0_0 (rd t121 x27_1)).f3) x49_3).drop ((ji31) : Int).toNat) x59_4))) = true := decide_eq_true c40
                                                            clear c40
                                                            by_cases c41 : (rd x6_3 (rd ((rd_L1 ((rd_T117 l0_0 (rd t121 x27_1)).f3) x49_3).drop ((ji31) : Int).toNat) x59_4)) = 0
                                                            · rw [if_pos c41] at H
                                                              exact absurd H (by simp)
                                                            · rw [if_neg c41] at H
                                                              have c41b0 : ((rd x6_3 (rd ((rd_L1 ((rd_T117 l0_0 (rd t121 x27_1)).f3) x49_3).drop ((ji31) : Int).toNat) x59_4)) == 0) = false := beq_eq_false_iff_ne.mpr c41
                                                              have c41b1 : ((rd x6_3 (rd ((rd_L1 ((rd_T117 l0_0 (rd t121 x27_1)).f3) x49_3).drop ((ji31) : Int).toNat) x59_4)) != 0) = true := bne_iff_ne.mpr c41
                                                              by_cases c42 : x11_4 > (wrap64 ((1099511627777 : Int) / (rd x6_3 (rd ((rd_L1 ((rd_T117 l0_0 (rd t121 x27_1)).f3) x49_3).drop ((ji31) : Int).toNat) x59_4))))
                                                              · rw [if_pos c42] at H
                                                                have c42b0 : decide ((wrap64 ((1099511627777 : Int) / (rd x6_3 (rd ((rd_L1 ((rd_T117 l0_0 (rd t121 x27_1)).f3) x49_3).drop ((ji31) : Int).toNat) x59_4)))) < x11_4) = true := decide_eq_true c42
                                                                have c42t : (wrap64 (Int.tdiv (1099511627777 : Int) (rd x6_3 (rd ((rd_L1 ((rd_T117 l0_0 (rd t121 x27_1)).f3) x49_3).drop ((ji31) : Int).toNat) x59_4))) < x11_4) = True := by rw [Int.tdiv_eq_ediv_of_nonneg (by decide)]; exact eq_true c42
                                                                clear c42
                                                                have H' := Aside0.mk H
                                                                clear H
                                                                have p136 : 0 ≤ (x59_4 : Int) := of_decide_eq_true (by first | (with_reducible assumption) | assumption)
                                                                have q136 : x59_4 < (((rd_L1 ((rd_T117 l0_0 (rd t121 x27_1)).f3) x49_3).drop ((ji31) : Int).toNat).length : Int) := of_decide_eq_true (by first | (with_reducible assumption) | assumption)
                                                                have q136z : _ = True := eq_true q136
                                                                try rw [List.length_drop] at q136z
                                                                obtain ⟨ad136, e136, hx136_0⟩ := Kd.at_int HR135.out x59_4 p136 q136
                                                                cases e136
                                                                replace hx136_0 := (HB.out.cell (World.block_lt_of_cell? w _ hx136_0)).trans hx136_0
                                                                replace p136 := eq_true p136
                                                                replace q136 := eq_true q136
                                                                obtain ⟨Ao43, co43, eo43⟩ := Kd.R_slice HO_6.out
                                                                subst eo43
                                                                have p137 : 0 ≤ ((rd ((rd_L1 ((rd_T117 l0_0 (rd t121 x27_1)).f3) x49_3).drop ((ji31) : Int).toNat) x59_4) : Int) := of_decide_eq_true (by first | (with_reducible assumption) | assumption)
                                                                have q137 : (rd ((rd_L1 ((rd_T117 l0_0 (rd t121 x27_1)).f3) x49_3).drop ((ji31) : Int).toNat) x59_4) < (x6_3.length : Int) := of_decide_eq_true (by first | (with_reducible assumption) | assumption)
                                                                obtain ⟨ad137, e137, hx137_0⟩ := Kd.at_int (Kd.R_reads' HO_6.out).2.2 (rd ((rd_L1 ((rd_T117 l0_0 (rd t121 x27_1)).f3) x49_3).drop ((ji31) : Int).toNat) x59_4) p137 q137
                                                                cases e137
                                                                replace p137 := eq_true p137
                                                                replace q137 := eq_true q137
                                                                have p138 : 0 ≤ ((rd ((rd_L1 ((rd_T117 l0_0 (rd t121 x27_1)).f3) x49_3).drop ((ji31) : Int).toNat) x59_4) : Int) := of_decide_eq_true (by first | (with_reducible assumption) | assumption)
                                                                have q138 : (rd ((rd_L1 ((rd_T117 l0_0 (rd t121 x27_1)).f3) x49_3).drop ((ji31) : Int).toNat) x59_4) < (x6_3.length : Int) := of_decide_eq_true (by first | (with_reducible assumption) | assumption)
                                                                obtain ⟨ad138, e138, hx138_0⟩ := Kd.at_int (Kd.R_reads' HO_6.out).2.2 (rd ((rd_L1 ((rd_T117 l0_0 (rd t121 x27_1)).f3) x49_3).drop ((ji31) : Int).toNat) x59_4) p138 q138
                                                                obtain rfl : ad137 = ad138 := (by injection e138)
                                                                replace p138 := eq_true p138
                                                                replace q138 := eq_true q138
                                                                go_wp2
                                                                first | go_roundg k4 | ((simp only [← hji31]); go_roundg k4)
                                                                case measure => have := HK1.out; have := HJ17.out; have := HK3.out; have := HK4.out; omega
                                                                case rel => exact ⟨(1099511627777), (wrap64 (x59_4 + 1)), (by first | rfl | (simp; done) | (simp [*]; done)), (by first | rfl | (simp; done) | (simp [*]; done)), (by first | exact H' | ((simp only [hji31]); exact H') | (have h_ := H'.out; simp only [← hji31] at h_ ⊢; exact ⟨h_⟩)), ⟨by have := HK1.out; have := HJ17.out; have := HK3.out; have := HK4.out; omega⟩, ⟨by (with_reducible repeat (first | apply Kd.R_alloc | apply Kd.R_drewN | apply Kd.R_drew)); exact HO_4.out⟩, ⟨by (with_reducible repeat (first | apply Kd.R_alloc | apply Kd.R_drewN | apply Kd.R_drew)); exact HO_6.out⟩, ⟨by (with_reducible repeat (first | refine blk_drewN ?_ _ | refine blk_drew ?_ | refine blk_alloc ?_ _)); (first | exact BK120.out | (have h_ := BK120.out; simp only [← hji31] at h_; exact h_))⟩, ⟨by repeat (first | (with_reducible first | exact HB.out | apply below_alloc | apply pw_below_drewN | apply below_drew1 | refine below_set ?_ GE120.out) | exact HB.out)⟩⟩
                                                              · rw [if_neg c42] at H
                                                                have c42b0 : decide ((wrap64 ((1099511627777 : Int) / (rd x6_3 (rd ((rd_L1 ((rd_T117 l0_0 (rd t121 x27_1)).f3) x49_3).drop ((ji31) : Int).toNat) x59_4)))) < x11_4) = false := decide_eq_false c42
                                                                have c42t : (wrap64 (Int.tdiv (1099511627777 : Int) (rd x6_3 (rd ((rd_L1 ((rd_T117 l0_0 (rd t121 x27_1)).f3) x49_3).drop ((ji31) : Int).toNat) x59_4))) < x11_4) = False := by rw [Int.tdiv_eq_ediv_of_nonneg (by decide)]; exact eq_false c42
                                                                clear c42
                                                                have H' := Aside0.mk H
                                                                clear H
                                                                have p136 : 0 ≤ (x59_4 : Int) := of_decide_eq_true (by first | (with_reducible assumption) | assumption)
                                                                have q136 : x59_4 < (((rd_L1 ((rd_T117 l0_0 (rd t121 x27_1)).f3) x49_3).drop ((ji31) : Int).toNat).length : Int) := of_decide_eq_true (by first | (with_reducible assumption) | assumption)
                                                                have q136z : _ = True := eq_true q136
                                                                try rw [List.length_drop] at q136z
                                                                obtain ⟨ad136, e136, hx136_0⟩ := Kd.at_int HR135.out x59_4 p136 q136
                                                                cases e136
                                                                replace hx136_0 := (HB.out.cell (World.block_lt_of_cell? w _ hx136_0)).trans hx136_0
                                                                replace p136 := eq_true p136
                                                                replace q136 := eq_true q136
                                                                obtain ⟨Ao44, co44, eo44⟩ := Kd.R_slice HO_6.out
                                                                subst eo44
                                                                have p137 : 0 ≤ ((rd ((rd_L1 ((rd_T117 l0_0 (rd t121 x27_1)).f3) x49_3).drop ((ji31) : Int).toNat) x59_4) : Int) := of_decide_eq_true (by first | (with_reducible assumption) | assumption)
                                                                have q137 : (rd ((rd_L1 ((rd_T117 l0_0 (rd t121 x27_1)).f3) x49_3).drop ((ji31) : Int).toNat) x59_4) < (x6_3.length : Int) := of_decide_eq_true (by first | (with_reducible assumption) | assumption)
                                                                obtain ⟨ad137, e137, hx137_0⟩ := Kd.at_int (Kd.R_reads' HO_6.out).2.2 (rd ((rd_L1 ((rd_T117 l0_0 (rd t121 x27_1)).f3) x49_3).drop ((ji31) : Int).toNat) x59_4) p137 q137
                                                                cases e137
                                                                replace p137 := eq_true p137
                                                                replace q137 := eq_true q137
                                                                have p138 : 0 ≤ ((rd ((rd_L1 ((rd_T117 l0_0 (rd t121 x27_1)).f3) x49_3).drop ((ji31) : Int).toNat) x59_4) : Int) := of_decide_eq_true (by first | (with_reducible assumption) | assumption)
                                                                have q138 : (rd ((rd_L1 ((rd_T117 l0_0 (rd t121 x27_1)).f3) x49_3).drop ((ji31) : Int).toNat) x59_4) < (x6_3.length : Int) := of_decide_eq_true (by first | (with_reducible assumption) | assumption)
                                                                obtain ⟨ad138, e138, hx138_0⟩ := Kd.at_int (Kd.R_reads' HO_6.out).2.2 (rd ((rd_L1 ((rd_T117 l0_0 (rd t121 x27_1)).f3) x49_3).drop ((ji31) : Int).toNat) x59_4) p138 q138
                                                                obtain rfl : ad137 = ad138 := (by injection e138)
                                                                replace p138 := eq_true p138
                                                                replace q138 := eq_true q138
                                                                have p139 : 0 ≤ ((rd ((rd_L1 ((rd_T117 l0_0 (rd t121 x27_1)).f3) x49_3).drop ((ji31) : Int).toNat) x59_4) : Int) := of_decide_eq_true (by first | (with_reducible assumption) | assumption)
                                                                have q139 : (rd ((rd_L1 ((rd_T117 l0_0 (rd t121 x27_1)).f3) x49_3).drop ((ji31) : Int).toNat) x59_4) < (x6_3.length : Int) := of_decide_eq_true (by first | (with_reducible assumption) | assumption)
                                                                obtain ⟨ad139, e139, hx139_0⟩ := Kd.at_int (Kd.R_reads' HO_6.out).2.2 (rd ((rd_L1 ((rd_T117 l0_0 (rd t121 x27_1)).f3) x49_3).drop ((ji31) : Int).toNat) x59_4) p139 q139
                                                                obtain rfl : ad137 = ad139 := (by injection e139)
                                                                replace p139 := eq_true p139
                                                                replace q139 := eq_true q139
                                                                go_wp2
                                                                first | go_roundg k4 | ((simp only [← hji31]); go_roundg k4)
                                                                case measure => have := HK1.out; have := HJ17.out; have := HK3.out; have := HK4.out; omega
                                                                case rel => exact ⟨(wrap64 (x11_4 * (rd x6_3 (rd ((rd_L1 ((rd_T117 l0_0 (rd t121 x27_1)).f3) x49_3).drop ((ji31) : Int).toNat) x59_4)))), (wrap64 (x59_4 + 1)), (by first | rfl | (simp; done) | (simp only [← hji31] <;> (first | rfl | simp)) | (simp [*]; done)), (by first | rfl | (simp; done) | (simp [*]; done)), (by first | exact H' | ((simp only [hji31]); exact H') | (have h_ := H'.out; simp only [← hji31] at h_ ⊢; exact ⟨h_⟩)), ⟨by have := HK1.out; have := HJ17.out; have := HK3.out; have := HK4.out; omega⟩, ⟨by (with_reducible repeat (first | apply Kd.R_alloc | apply Kd.R_drewN | apply Kd.R_drew)); exact HO_4.out⟩, ⟨by (with_reducible repeat (first | apply Kd.R_alloc | apply Kd.R_drewN | apply Kd.R_drew)); exact HO_6.out⟩, ⟨by (with_reducible repeat (first | refine blk_drewN ?_ _ | refine blk_drew ?_ | refine blk_alloc ?_ _)); (first | exact BK120.out | (have h_ := BK120.out; simp only [← hji31] at h_; exact h_))⟩, ⟨by repeat (first | (with_reducible first | exact HB.out | apply below_alloc | apply pw_below_drewN | apply below_drew1 | refine below_set ?_ GE120.out) | exact HB.out)⟩⟩
                                                          · rw [if_neg c40] at H
                                                            have c40b0 : decide (0 < (rd x6_3 (rd ((rd_L1 ((rd_T117 l0_0 (rd t121 x27_1)).f3) x49_3).drop ((ji31) : Int).toNat) x59_4))) = false := decide_eq_false c40
                                                            clear c40
                                                            have H' := Aside0.mk H
                                                            clear H
                                                            have p136 : 0 ≤ (x59_4 : Int) := of_decide_eq_true (by first | (with_reducible assumption) | assumption)
                                                            have q136 : x59_4 < (((rd_L1 ((rd_T117 l0_0 (rd t121 x27_1)).f3) x49_3).drop ((ji31) : Int).toNat).length : Int) := of_decide_eq_true (by first | (with_reducible assumption) | assumption)
                                                            have q136z : _ = True := eq_true q136
                                                            try rw [List.length_drop] at q136z
                                                            obtain ⟨ad136, e136, hx136_0⟩ := Kd.at_int HR135.out x59_4 p136 q136
                                                            cases e136
                                                            replace hx136_0 := (HB.out.cell (World.block_lt_of_cell? w _ hx136_0)).trans hx136_0
                                                            replace p136 := eq_true p136
                                                            replace q136 := eq_true q136
                                                            obtain ⟨Ao45, co45, eo45⟩ := Kd.R_slice HO_6.out
                                                            subst eo45
                                                            have p137 : 0 ≤ ((rd ((rd_L1 ((rd_T117 l0_0 (rd t121 x27_1)).f3) x49_3).drop ((ji31) : Int).toNat) x59_4) : Int) := of_decide_eq_true (by first | (with_reducible assumption) | assumption)
                                                            have q137 : (rd ((rd_L1 ((rd_T117 l0_0 (rd t121 x27_1)).f3) x49_3).drop ((ji31) : Int).toNat) x59_4) < (x6_3.length : Int) := of_decide_eq_true (by first | (with_reducible assumption) | assumption)
                                                            obtain ⟨ad137, e137, hx137_0⟩ := Kd.at_int (Kd.R_reads' HO_6.out).2.2 (rd ((rd_L1 ((rd_T117 l0_0 (rd t121 x27_1)).f3) x49_3).drop ((ji31) : Int).toNat) x59_4) p137 q137
                                                            cases e137
                                                            replace p137 := eq_true p137
                                                            replace q137 := eq_true q137
                                                            have p140 : 0 ≤ ((rd ((rd_L1 ((rd_T117 l0_0 (rd t121 x27_1)).f3) x49_3).drop ((ji31) : Int).toNat) x59_4) : Int) := of_decide_eq_true (by first | (with_reducible assumption) | assumption)
                                                            have q140 : (rd ((rd_L1 ((rd_T117 l0_0 (rd t121 x27_1)).f3) x49_3).drop ((ji31) : Int).toNat) x59_4) < (x6_3.length : Int) := of_decide_eq_true (by first | (with_reducible assumption) | assumption)
                                                            obtain ⟨ad140, e140, hx140_0⟩ := Kd.at_int (Kd.R_reads' HO_6.out).2.2 (rd ((rd_L1 ((rd_T117 l0_0 (rd t121 x27_1)).f3) x49_3).drop ((ji31) : Int).toNat) x59_4) p140 q140
                                                            obtain rfl : ad137 = ad140 := (by injection e140)
                                                            replace p140 := eq_true p140
                                                            replace q140 := eq_true q140
                                                            go_wp2
                                                            first | go_roundg k4 | ((simp only [← hji31]); go_roundg k4)
                                                            case measure => have := HK1.out; have := HJ17.out; have := HK3.out; have := HK4.out; omega
                                                            case rel => exact ⟨(wrap64 (x11_4 * (rd x6_3 (rd ((rd_L1 ((rd_T117 l0_0 (rd t121 x27_1)).f3) x49_3).drop ((ji31) : Int).toNat) x59_4)))), (wrap64 (x59_4 + 1)), (by first | rfl | (simp; done) | (simp only [← hji31] <;> (first | rfl | simp)) | (simp [*]; done)), (by first | rfl | (simp; done) | (simp [*]; done)), (by first | exact H' | ((simp only [hji31]); exact H') | (have h_ := H'.out; simp only [← hji31] at h_ ⊢; exact ⟨h_⟩)), ⟨by have := HK1.out; have := HJ17.out; have := HK3.out; have := HK4.out; omega⟩, ⟨by (with_reducible repeat (first | apply Kd.R_alloc | apply Kd.R_drewN | apply Kd.R_drew)); exact HO_4.out⟩, ⟨by (with_reducible repeat (first | apply Kd.R_alloc | apply Kd.R_drewN | apply Kd.R_drew)); exact HO_6.out⟩, ⟨by (with_reducible repeat (first | refine blk_drewN ?_ _ | refine blk_drew ?_ | refine blk_alloc ?_ _)); (first | exact BK120.out | (have h_ := BK120.out; simp only [← hji31] at h_; exact h_))⟩, ⟨by repeat (first | (with_reducible first | exact HB.out | apply below_alloc | apply pw_below_drewN | apply below_drew1 | refine below_set ?_ GE120.out) | exact HB.out)⟩⟩
                                                        · rw [if_neg c39] at H
                                                          exact absurd H (by simp)
                                                      · rw [if_neg c38] at H
                                                        exact absurd H (by simp)
                                                    · rw [if_neg c37] at H
                                                      exact absurd H (by simp)
                                                  · rw [if_neg c36] at H
                                                    exact absurd H (by simp)
                                                · rw [if_neg c35] at H
                                                  have c35b0 : decide (x59_4 < (((rd_L1 ((rd_T117 l0_0 (rd t121 x27_1)).f3) x49_3).drop ((ji31) : Int).toNat).length : Int)) = false := decide_eq_false c35
                                                  have c35z : _ = False := eq_false c35
                                                  try rw [List.length_drop] at c35z
                                                  clear c35
                                                  by_cases c46 : 0 ≤ (rd t121 x27_1)
                                                  · rw [if_pos c46] at H
                                                    have c46b0 : decide (0 ≤ (rd t121 x27_1)) = true := decide_eq_true c46
                                                    clear c46
                                                    by_cases c47 : (rd t121 x27_1) < (x6_3.length : Int)
                                                    · rw [if_pos c47] at H
                                                      have c47b0 : decide ((rd t121 x27_1) < (x6_3.length : Int)) = true := decide_eq_true c47
                                                      clear c47
                                                      obtain ⟨ji48, hji48⟩ : ∃ j_ : Int, (mn (wrap64 ((rd x6_3 (rd t121 x27_1)) + x11_4)) 1099511627777) = j_ := ⟨_, rfl⟩
                                                      replace H : (thicket_Count.l1 k4 t121 (x6_3.set ((rd t121 x27_1) : Int).toNat (ji48)) (rd t121 x27_1) (t121.length : Int) x27_1 ((rd_T117 l0_0 (rd t121 x27_1)).f3) (((rd_T117 l0_0 (rd t121 x27_1)).f3).length : Int) (wrap64 (x49_3 + 1)) l0_0 a0_1) = some (r1, r2) := by first | (rw [hji48] at H; exact H) | (simp only [hji48] at H ⊢; exact H)
                                                      have hji48_ : (if 1099511627777 < (wrap64 ((rd x6_3 (rd t121 x27_1)) + x11_4)) then 1099511627777 else (wrap64 ((rd x6_3 (rd t121 x27_1)) + x11_4))) = ji48 := hji48
                                                      obtain ⟨y142, hy142⟩ : ∃ y_ : List Int, y_ = (x6_3.set ((rd t121 x27_1) : Int).toNat (ji48)) := ⟨_, rfl⟩
                                                      replace H : (thicket_Count.l1 k4 t121 y142 (rd t121 x27_1) (t121.length : Int) x27_1 ((rd_T117 l0_0 (rd t121 x27_1)).f3) (((rd_T117 l0_0 (rd t121 x27_1)).f3).length : Int) (wrap64 (x49_3 + 1)) l0_0 a0_1) = some (r1, r2) := by first | (rw [hy142]; with_reducible exact H) | (have H2_ := (Option.bind_some _ _).symm.trans H; rw [hy142]; with_reducible exact H2_) | (have H2_ := (Option.bind_some _ _).symm.trans H; with_reducible exact H2_) | with_reducible exact H | (rw [hy142]; exact H) | exact H
                                                      have Ny142 := Aside0.mk hy142
                                                      clear hy142
                                                      have H' := Aside0.mk H
                                                      clear H
                                                      obtain ⟨Ao50, co50, eo50⟩ := Kd.R_slice HO_6.out
                                                      subst eo50
                                                      have p141 : 0 ≤ ((rd t121 x27_1) : Int) := of_decide_eq_true (by first | (with_reducible assumption) | assumption)
                                                      have q141 : (rd t121 x27_1) < (x6_3.length : Int) := of_decide_eq_true (by first | (with_reducible assumption) | assumption)
                                                      obtain ⟨ad141, e141, hx141_0⟩ := Kd.at_int (Kd.R_reads' HO_6.out).2.2 (rd t121 x27_1) p141 q141
                                                      cases e141
                                                      replace p141 := eq_true p141
                                                      replace q141 := eq_true q141
                                                      have p49 : 0 ≤ ((rd t121 x27_1) : Int) := of_decide_eq_true (by first | (with_reducible assumption) | assumption)
                                                      have q49 : ((rd t121 x27_1) : Int) < ((x6_3.length : Int) : Int) := of_decide_eq_true (by first | (with_reducible assumption) | assumption)
                                                      obtain ⟨go49, co49, eo49, gb49, gl49, cl49, HG49⟩ := Kd.R_form HO_6.out (by omega)
                                                      (first | cases eo49 | (injection eo49 with ea_ en_ ec_; (first | subst ea_ | (injection ea_ with ea_; subst ea_)); subst ec_; clear en_))
                                                      have GB49 := Aside0.mk gb49
                                                      have GG49 := Aside0.mk HG49
                                                      clear gb49 gl49 HG49
                                                      (first | simp only [add_plain] at hx141_0 | skip)
                                                      obtain ⟨hx49_0, hf49_0⟩ := Kd.R_celln 0 HO_6.out ((rd t121 x27_1) : Int) p49 q49
                                                      replace p49 := eq_true p49
                                                      replace q49 := eq_true q49
                                                      have HP51 := Kd.R_putg HO_6.out ((rd t121 x27_1) : Int) ji48
                                                      go_wp2_with (first | ((with_reducible refine gate_store (t := 2) (p := 93) rfl ?_); refine store_event (t := 2) (p := 93) (v := ?vo_w52) (w1 := (wr.setCell ⟨go49, ((rd t121 x27_1) : Int).toNat, none⟩ (.int .i64 ji48))) ?hg ?ho ?hn ?hr ?_; (case ho => rfl); (case hg => rfl); (case hn => rfl); (case hr => first | (go_simp; done) | (go_simp; rfl)); intro w52 hw; have hg : wr.grownBy w52 (some go49) := (by rw [hw]; exact HP51.2); have hp_ : Kd.R (Kd.int .i64) 2 w52 w.heap.size (fun _ => True) (.slice (some ⟨go49, 0, none⟩) x6_3.length co50) y142 := (by rw [hw, Ny142.out]; exact HP51.1); clear HP51; have n0_ := Aside0.mk (Kd.R_over' (v := (.slice (some ⟨go49, 0, none⟩) x6_3.length co50)) (by (with_reducible repeat (first | apply Kd.R_alloc | apply Kd.R_drewN | apply Kd.R_drew)); exact HO_4.out) (Kd.R_typed HO_6.out) (by decide) hg); have n1_ := Aside0.mk (hp_); have n2_ := Aside0.mk (blk_grown (g := gb120) (o := .cells #[.slice (some ad131) l0_0.length c0_0, .int .i64 a0_1] 39 (0, 0)) (by (with_reducible repeat (first | refine blk_drewN ?_ _ | refine blk_drew ?_ | refine blk_alloc ?_ _)); exact BK120.out) hg (Kd.R_ne HO_6.out BK120.out (by decide))); have n3_ := Aside0.mk ((by rw [hw]; exact below_set (HB.out) GB49.out : Below w.heap.size w w52)); clear HO_4; clear HO_6; clear BK120; clear HB; have HO_4 := n0_; have HO_6 := n1_; have BK120 := n2_; have HB := n3_; clear n0_ n1_ n2_ n3_; clear hg hw hp_))
                                                      first | go_roundg k4 | ((simp only [← hji31, ← hji48]); go_roundg k4)
                                                      case measure => have := HK1.out; have := HJ17.out; have := HK3.out; have := HK4.out; omega
                                                      case rel => exact ⟨(y142), (wrap64 (x49_3 + 1)), (by first | rfl | (simp; done) | (simp [*]; done)), (by first | exact H' | ((simp only [hji31, hji48]); exact H') | (have h_ := H'.out; simp only [← hji31, ← hji48] at h_ ⊢; exact ⟨h_⟩)), ⟨by have := HK1.out; have := HJ17.out; have := HK3.out; have := HK4.out; omega⟩, ⟨by (with_reducible repeat (first | apply Kd.R_alloc | apply Kd.R_drewN | apply Kd.R_drew)); exact HO_4.out⟩, ⟨by (with_reducible repeat (first | apply Kd.R_alloc | apply Kd.R_drewN | apply Kd.R_drew)); exact HO_6.out⟩, ⟨by (with_reducible repeat (first | refine blk_drewN ?_ _ | refine blk_drew ?_ | refine blk_alloc ?_ _)); (first | exact BK120.out | (have h_ := BK120.out; simp only [← hji31, ← hji48] at h_; exact h_))⟩, ⟨by repeat (first | (with_reducible first | exact HB.out | apply below_alloc | apply pw_below_drewN | apply below_drew1 | refine below_set ?_ GE120.out) | exact HB.out)⟩⟩
                                                    · rw [if_neg c47] at H
                                                      exact absurd H (by simp)
                                                  · rw [if_neg c46] at H
                                                    exact absurd H (by simp)
                                          · rw [if_neg c33] at H
                                            exact absurd H (by simp)
                                        · rw [if_neg c32] at H
                                          exact absurd H (by simp)
                                      · rw [if_neg c30] at H
                                        exact absurd H (by simp)
                                    · rw [if_neg c29] at H
                                      exact absurd H (by simp)
                                  · rw [if_neg c28] at H
                                    have c28b0 : decide (x49_3 < (((rd_T117 l0_0 (rd t121 x27_1)).f3).length : Int)) = false := decide_eq_false c28
                                    clear c28
                                    have H' := Aside0.mk H
                                    clear H
                                    go_wp2
                                    go_roundg k3
                                    case measure => have := HK1.out; have := HJ17.out; have := HK3.out; omega
                                    case rel => exact ⟨(x6_3), (wrap64 (x27_1 + 1)), (by first | rfl | (simp; done) | (simp [*]; done)), H', ⟨by have := HK1.out; have := HJ17.out; have := HK3.out; omega⟩, ⟨by (with_reducible repeat (first | apply Kd.R_alloc | apply Kd.R_drewN | apply Kd.R_drew)); exact HO_4.out⟩, ⟨by (with_reducible repeat (first | apply Kd.R_alloc | apply Kd.R_drewN | apply Kd.R_drew)); exact HO_6.out⟩, ⟨by (with_reducible repeat (first | refine blk_drewN ?_ _ | refine blk_drew ?_ | refine blk_alloc ?_ _)); exact BK120.out⟩, ⟨by repeat (first | (with_reducible first | exact HB.out | apply below_alloc | apply pw_below_drewN | apply below_drew1 | refine below_set ?_ GE120.out) | exact HB.out)⟩⟩
                            · rw [if_neg c26] at H
                              exact absurd H (by simp)
                          · rw [if_neg c25] at H
                            exact absurd H (by simp)
                    · rw [if_neg c17] at H
                      exact absurd H (by simp)
                  · rw [if_neg c16] at H
                    exact absurd H (by simp)
                · rw [if_neg c15] at H
                  exact absurd H (by simp)
              · rw [if_neg c14] at H
                exact absurd H (by simp)
            · rw [if_neg c13] at H
              have c13b0 : decide (x27_1 < (t121.length : Int)) = false := decide_eq_false c13
              clear c13
              by_cases c53 : 0 ≤ a0_1
              · rw [if_pos c53] at H
                have c53b0 : decide (0 ≤ a0_1) = true := decide_eq_true c53
                clear c53
                by_cases c54 : a0_1 < (x6_1.length : Int)
                · rw [if_pos c54] at H
                  have c54b0 : decide (a0_1 < (x6_1.length : Int)) = true := decide_eq_true c54
                  clear c54
                  by_cases c55 : (rd x6_1 a0_1) > 1099511627776
                  · rw [if_pos c55] at H
                    have c55b0 : decide (1099511627776 < (rd x6_1 a0_1)) = true := decide_eq_true c55
                    clear c55
                    simp only [Option.some.injEq, Prod.mk.injEq] at H
                    obtain ⟨rfl, rfl⟩ := H
                    have hcz56_0 : wr.cell? ⟨gb120, 0, none⟩ = some (.slice A0_0 l0_0.length c0_0) := (blk_cell BK120.out 0).trans rfl
                    have hcz56_1 : wr.cell? ⟨gb120, 1, none⟩ = some (.int .i64 a0_1) := (blk_cell BK120.out 1).trans rfl
                    have hfz56_0 := blk_frozen BK120.out 0
                    have hfz56_1 := blk_frozen BK120.out 1
                    obtain ⟨Ao57, co57, eo57⟩ := Kd.R_slice HO_6.out
                    subst eo57
                    have p128 : 0 ≤ (a0_1 : Int) := of_decide_eq_true (by first | (with_reducible assumption) | assumption)
                    have q128 : a0_1 < (x6_1.length : Int) := of_decide_eq_true (by first | (with_reducible assumption) | assumption)
                    obtain ⟨ad128, e128, hx128_0⟩ := Kd.at_int (Kd.R_reads' HO_6.out).2.2 a0_1 p128 q128
                    cases e128
                    replace p128 := eq_true p128
                    replace q128 := eq_true q128
                    go_wp2
                    go_ret2
                    exact ⟨by first | rfl | (simp [errW_none, errW_some] <;> rfl) | (simp [*, errW_none, errW_some] <;> rfl), by repeat (first | (with_reducible first | exact HB.out | apply below_alloc | apply pw_below_drewN | apply below_drew1 | refine below_set ?_ GE120.out) | exact HB.out)⟩
                  · rw [if_neg c55] at H
                    have c55b0 : decide (1099511627776 < (rd x6_1 a0_1)) = false := decide_eq_false c55
                    clear c55
                    simp only [Option.some.injEq, Prod.mk.injEq] at H
                    obtain ⟨rfl, rfl⟩ := H
                    have hcz58_0 : wr.cell? ⟨gb120, 0, none⟩ = some (.slice A0_0 l0_0.length c0_0) := (blk_cell BK120.out 0).trans rfl
                    have hcz58_1 : wr.cell? ⟨gb120, 1, none⟩ = some (.int .i64 a0_1) := (blk_cell BK120.out 1).trans rfl
                    have hfz58_0 := blk_frozen BK120.out 0
                    have hfz58_1 := blk_frozen BK120.out 1
                    obtain ⟨Ao59, co59, eo59⟩ := Kd.R_slice HO_6.out
                    subst eo59
                    have p128 : 0 ≤ (a0_1 : Int) := of_decide_eq_true (by first | (with_reducible assumption) | assumption)
                    have q128 : a0_1 < (x6_1.length : Int) := of_decide_eq_true (by first | (with_reducible assumption) | assumption)
                    obtain ⟨ad128, e128, hx128_0⟩ := Kd.at_int (Kd.R_reads' HO_6.out).2.2 a0_1 p128 q128
                    cases e128
                    replace p128 := eq_true p128
                    replace q128 := eq_true q128
                    have p129 : 0 ≤ (a0_1 : Int) := of_decide_eq_true (by first | (with_reducible assumption) | assumption)
                    have q129 : a0_1 < (x6_1.length : Int) := of_decide_eq_true (by first | (with_reducible assumption) | assumption)
                    obtain ⟨ad129, e129, hx129_0⟩ := Kd.at_int (Kd.R_reads' HO_6.out).2.2 a0_1 p129 q129
                    obtain rfl : ad128 = ad129 := (by injection e129)
                    replace p129 := eq_true p129
                    replace q129 := eq_true q129
                    go_wp2
                    go_ret2
                    exact ⟨by first | rfl | (simp [errW_none, errW_some] <;> rfl) | (simp [*, errW_none, errW_some] <;> rfl), by repeat (first | (with_reducible first | exact HB.out | apply below_alloc | apply pw_below_drewN | apply below_drew1 | refine below_set ?_ GE120.out) | exact HB.out)⟩
                · rw [if_neg c54] at H
                  exact absurd H (by simp)
              · rw [if_neg c53] at H
                exact absurd H (by simp)
      · rw [if_neg c5] at H
        exact absurd H (by simp)
    · rw [if_neg c4] at H
      exact absurd H (by simp)
  · replace c3 := Bool.eq_false_iff.mpr c3
    subst c3
    have H1 : (some (0, 3)) = some (r1, r2) := by rw [if_neg (show ¬ (false = true) by decide)] at H; exact H
    clear H
    have H := H1
    clear H1
    simp only [Option.some.injEq, Prod.mk.injEq] at H
    obtain ⟨rfl, rfl⟩ := H
    go_enter Try.func110, Try.ntmps110
    go_wp2_with (first | ((with_reducible refine gate_dst (N := 1) rfl ?_); refine box_event ?hg (N := 1) ?hd (cs := #[.slice A0_0 l0_0.length c0_0, .int .i64 a0_1]) (t := 39) ?hr ?_; (case hd => rfl); (case hg => rfl); (case hr => first | (go_simp; done) | (go_simp; rfl)); intro gb120 hg w60 hbox hb; have n0_ := Aside0.mk (below_step (by repeat (first | (with_reducible first | exact HB.out | apply below_alloc | apply pw_below_drewN | apply below_drew1) | exact HB.out)) hb); have n1_ := Aside0.mk (hbox); have n2_ := Aside0.mk ((by rw [hg]; exact (below_size (by repeat (first | (with_reducible first | exact HB.out | apply below_alloc | apply pw_below_drewN | apply below_drew1) | exact HB.out))) : w.heap.size ≤ gb120)); have n3_ := Aside0.mk ((by rw [hg]; exact (below_size (by repeat (first | (with_reducible first | exact HB.out | apply below_alloc | apply pw_below_drewN | apply below_drew1) | exact HB.out))) : w.heap.size ≤ gb120)); clear HB; have HB := n0_; have BK120 := n1_; have GW120 := n2_; have GE120 := n3_; clear n0_ n1_ n2_ n3_; clear hb hbox hg; have hcz61_0 : w60.cell? ⟨gb120, 0, none⟩ = some (.slice A0_0 l0_0.length c0_0) := (blk_cell BK120.out 0).trans rfl; have hcz61_1 : w60.cell? ⟨gb120, 1, none⟩ = some (.int .i64 a0_1) := (blk_cell BK120.out 1).trans rfl; have hfz61_0 := blk_frozen BK120.out 0; have hfz61_1 := blk_frozen BK120.out 1) | ((with_reducible refine gate_callee (f := 134) rfl ?_); refine goesL_ (some 16) rfl rfl Try.func134 (by kernel_rfl) rfl #[.agg #[.slice A0_0 l0_0.length c0_0, .int .i64 a0_1]] rfl (by (try simp only [List.map_toArray, List.map_cons, List.map_nil]); first | done | rfl | (simp only [List.length_drop, List.length_take]; rfl)) ?_; (with_reducible refine (thicket_order.calls k _ _ l0_0 a0_1 t121 false _ ?side1 ?side2 A2.out).mono ?_); (case side1 => repeat (first | exact (Kd.C_below HR0_0.out HB.out) | (with_reducible refine Kd.C_alloc ?_ _) | (with_reducible refine Kd.C_drewN ?_ _) | (with_reducible refine Kd.C_drew ?_))); (case side2 => exact HC0_0.out); rintro e w62 ⟨v122, rfl, ho0, hb⟩; refine ⟨_, rfl, ?_⟩; have n0_ := Aside0.mk (Kd.R_lower ho0 (below_size (by repeat (first | (with_reducible first | exact HB.out | apply below_alloc | apply pw_below_drewN | apply below_drew1 | refine below_set ?_ GE120.out) | exact HB.out)))); have n1_ := Aside0.mk (blk_below (g := gb120) (o := .cells #[.slice A0_0 l0_0.length c0_0, .int .i64 a0_1] 39 (0, 0)) (by (with_reducible repeat (first | refine blk_drewN ?_ _ | refine blk_drew ?_ | refine blk_alloc ?_ _)); exact BK120.out) hb); have n2_ := Aside0.mk (below_step (by repeat (first | (with_reducible first | exact HB.out | apply below_alloc | apply pw_below_drewN | apply below_drew1 | refine below_set ?_ GE120.out) | exact HB.out)) hb); clear BK120; clear HB; have HO123 := n0_; have BK120 := n1_; have HB := n2_; clear n0_ n1_ n2_; (try clear hb); (try clear hb2); (try clear hk); (try clear hi); (try clear ho0)))
    go_ret2
    exact ⟨by first | rfl | (simp [errW_none, errW_some] <;> rfl) | (simp [*, errW_none, errW_some] <;> rfl), by repeat (first | (with_reducible first | exact HB.out | apply below_alloc | apply pw_below_drewN | apply below_drew1 | refine below_set ?_ GE120.out) | exact HB.out)⟩

end Go.Proofs.Ythgiiikjcfhgjaa.GK
