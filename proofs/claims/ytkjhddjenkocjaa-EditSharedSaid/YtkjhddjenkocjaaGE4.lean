-- Written by ext.py, a program of this session.
import Derived.Test.YtkjhddjenkocjaaGE0
namespace Go.Proofs.Ytkjhddjenkocjaa.GE
open Go.RowKit Go.Proofs.YtkjhddjenkocjaaW.PrintWords Go.Proofs.YtkjhddjenkocjaaW.PrintLast Go.Proofs.YtkjhddjenkocjaaW.PrintMore
attribute [local go_sem] max2_int min2_int max_two min_two max_three min_three max_four min_four cellIs_set   -- for this text's walks alone
set_option linter.unusedVariables false
set_option linter.unusedSimpArgs false

/-! ### edit_Far: function 41 -/
mutual
def edit_Far.j0 : Nat → List Int → List Int → Bool → Option (Int × Int)
  | 0, _, _, _ => none
  | k + 1, x0, x1, x21 => if x21 = true then (some (0, 1)) else (if 0 ≤ (wrap64 ((x1.length : Int) + 1)) then (if (wrap64 ((x1.length : Int) + 1) : Int).toNat ≤ 35184372088832 then ((some (List.replicate (wrap64 ((x1.length : Int) + 1) : Int).toNat 0 : List Int)).bind fun y140 => (edit_Far.l0 k x0 x1 y140 (y140.length : Int) 0)) else (none)) else (none))
def edit_Far.l0 : Nat → List Int → List Int → List Int → Int → Int → Option (Int × Int)
  | 0, _, _, _, _, _ => none
  | k + 1, x0, x1, x6, x27, x28 => if x28 < x27 then (if 0 ≤ x28 then (if x28 < (x6.length : Int) then (edit_Far.l0 k x0 x1 (x6.set (x28 : Int).toNat x28) x27 (wrap64 (x28 + 1))) else (none)) else (none)) else (edit_Far.l1 k x1 x6 x0 (x0.length : Int) 0)
def edit_Far.l1 : Nat → List Int → List Int → List Int → Int → Int → Option (Int × Int)
  | 0, _, _, _, _, _ => none
  | k + 1, x1, x6, x36, x37, x38 => if x38 < x37 then (if 0 ≤ x38 then (if x38 < (x36.length : Int) then (if 0 < (x6.length : Int) then (edit_Far.l2 k x1 (x6.set (0 : Int).toNat (wrap64 (x38 + 1))) (rd x36 x38) (rd x6 0) x36 x37 x38 x1 (x1.length : Int) 0) else (none)) else (none)) else (none)) else (if 0 ≤ (x1.length : Int) then (if (x1.length : Int) < (x6.length : Int) then (some (rd x6 (x1.length : Int), 0)) else (none)) else (none))
def edit_Far.l2 : Nat → List Int → List Int → Int → Int → List Int → Int → Int → List Int → Int → Int → Option (Int × Int)
  | 0, _, _, _, _, _, _, _, _, _, _ => none
  | k + 1, x1, x6, x9, x10, x36, x37, x38, x50, x51, x52 => if x52 < x51 then (if 0 ≤ x52 then (if x52 < (x50.length : Int) then (if x9 = (rd x50 x52) then (if 0 ≤ (wrap64 (x52 + 1)) then (if (wrap64 (x52 + 1)) < (x6.length : Int) then (if x52 < (x6.length : Int) then (edit_Far.l2 k x1 (x6.set ((wrap64 (x52 + 1)) : Int).toNat (mn (mn x10 (wrap64 ((rd x6 x52) + 1))) (wrap64 ((rd x6 (wrap64 (x52 + 1))) + 1)))) x9 (rd x6 (wrap64 (x52 + 1))) x36 x37 x38 x50 x51 (wrap64 (x52 + 1))) else (none)) else (none)) else (none)) else (if 0 ≤ (wrap64 (x52 + 1)) then (if (wrap64 (x52 + 1)) < (x6.length : Int) then (if x52 < (x6.length : Int) then (edit_Far.l2 k x1 (x6.set ((wrap64 (x52 + 1)) : Int).toNat (mn (mn (wrap64 (x10 + 1)) (wrap64 ((rd x6 x52) + 1))) (wrap64 ((rd x6 (wrap64 (x52 + 1))) + 1)))) x9 (rd x6 (wrap64 (x52 + 1))) x36 x37 x38 x50 x51 (wrap64 (x52 + 1))) else (none)) else (none)) else (none))) else (none)) else (none)) else (edit_Far.l1 k x1 x6 x36 x37 (wrap64 (x38 + 1)))
end
def edit_Far.f (k : Nat) (l0 : List Int) (l1 : List Int) : Option (Int × Int) := if (l0.length : Int) > 60 then (edit_Far.j0 k l0 l1 true) else (edit_Far.j0 k l0 l1 (decide ((l1.length : Int) > 60)))
theorem edit_Far.mono_l : ∀ k, (∀ y0 y1 y2, LeO (edit_Far.j0 k y0 y1 y2) (edit_Far.j0 (k + 1) y0 y1 y2)) ∧ (∀ y0 y1 y2 y3 y4, LeO (edit_Far.l0 k y0 y1 y2 y3 y4) (edit_Far.l0 (k + 1) y0 y1 y2 y3 y4)) ∧ (∀ y0 y1 y2 y3 y4, LeO (edit_Far.l1 k y0 y1 y2 y3 y4) (edit_Far.l1 (k + 1) y0 y1 y2 y3 y4)) ∧ (∀ y0 y1 y2 y3 y4 y5 y6 y7 y8 y9, LeO (edit_Far.l2 k y0 y1 y2 y3 y4 y5 y6 y7 y8 y9) (edit_Far.l2 (k + 1) y0 y1 y2 y3 y4 y5 y6 y7 y8 y9))
  | 0 => ⟨fun _ _ _ r h => by simp [edit_Far.j0] at h, fun _ _ _ _ _ r h => by simp [edit_Far.l0] at h, fun _ _ _ _ _ r h => by simp [edit_Far.l1] at h, fun _ _ _ _ _ _ _ _ _ _ r h => by simp [edit_Far.l2] at h⟩
  | k + 1 => by
    obtain ⟨ih0, ih1, ih2, ih3⟩ := edit_Far.mono_l k
    refine ⟨?_, ?_, ?_, ?_⟩
    · intro y0 y1 y2
      unfold edit_Far.j0
      repeat' first
      | (with_reducible exact ih0 _ _ _)
      | (with_reducible exact ih1 _ _ _ _ _)
      | (with_reducible exact ih2 _ _ _ _ _)
      | (with_reducible exact ih3 _ _ _ _ _ _ _ _ _ _)
      | (with_reducible exact LeO.refl _)
      | (with_reducible exact LeO.none _)
      | (with_reducible refine LeO.ite ?_ ?_)
      | (with_reducible refine LeO.bind ?_ (fun _ => ?_))
      | exact ih0 _ _ _
      | exact ih1 _ _ _ _ _
      | exact ih2 _ _ _ _ _
      | exact ih3 _ _ _ _ _ _ _ _ _ _
      | exact LeO.none _
      | refine LeO.ite ?_ ?_
      | refine LeO.bind ?_ (fun _ => ?_)
    · intro y0 y1 y2 y3 y4
      unfold edit_Far.l0
      repeat' first
      | (with_reducible exact ih0 _ _ _)
      | (with_reducible exact ih1 _ _ _ _ _)
      | (with_reducible exact ih2 _ _ _ _ _)
      | (with_reducible exact ih3 _ _ _ _ _ _ _ _ _ _)
      | (with_reducible exact LeO.refl _)
      | (with_reducible exact LeO.none _)
      | (with_reducible refine LeO.ite ?_ ?_)
      | (with_reducible refine LeO.bind ?_ (fun _ => ?_))
      | exact ih0 _ _ _
      | exact ih1 _ _ _ _ _
      | exact ih2 _ _ _ _ _
      | exact ih3 _ _ _ _ _ _ _ _ _ _
      | exact LeO.none _
      | refine LeO.ite ?_ ?_
      | refine LeO.bind ?_ (fun _ => ?_)
    · intro y0 y1 y2 y3 y4
      unfold edit_Far.l1
      repeat' first
      | (with_reducible exact ih0 _ _ _)
      | (with_reducible exact ih1 _ _ _ _ _)
      | (with_reducible exact ih2 _ _ _ _ _)
      | (with_reducible exact ih3 _ _ _ _ _ _ _ _ _ _)
      | (with_reducible exact LeO.refl _)
      | (with_reducible exact LeO.none _)
      | (with_reducible refine LeO.ite ?_ ?_)
      | (with_reducible refine LeO.bind ?_ (fun _ => ?_))
      | exact ih0 _ _ _
      | exact ih1 _ _ _ _ _
      | exact ih2 _ _ _ _ _
      | exact ih3 _ _ _ _ _ _ _ _ _ _
      | exact LeO.none _
      | refine LeO.ite ?_ ?_
      | refine LeO.bind ?_ (fun _ => ?_)
    · intro y0 y1 y2 y3 y4 y5 y6 y7 y8 y9
      unfold edit_Far.l2
      repeat' first
      | (with_reducible exact ih0 _ _ _)
      | (with_reducible exact ih1 _ _ _ _ _)
      | (with_reducible exact ih2 _ _ _ _ _)
      | (with_reducible exact ih3 _ _ _ _ _ _ _ _ _ _)
      | (with_reducible exact LeO.refl _)
      | (with_reducible exact LeO.none _)
      | (with_reducible refine LeO.ite ?_ ?_)
      | (with_reducible refine LeO.bind ?_ (fun _ => ?_))
      | exact ih0 _ _ _
      | exact ih1 _ _ _ _ _
      | exact ih2 _ _ _ _ _
      | exact ih3 _ _ _ _ _ _ _ _ _ _
      | exact LeO.none _
      | refine LeO.ite ?_ ?_
      | refine LeO.bind ?_ (fun _ => ?_)
theorem edit_Far.mono : ∀ a0 a1 k, LeO (edit_Far.f k a0 a1) (edit_Far.f (k + 1) a0 a1) := by
  intro a0 a1 k
  obtain ⟨ih0, ih1, ih2, ih3⟩ := edit_Far.mono_l k
  unfold edit_Far.f
  repeat' first
      | (with_reducible exact ih0 _ _ _)
      | (with_reducible exact ih1 _ _ _ _ _)
      | (with_reducible exact ih2 _ _ _ _ _)
      | (with_reducible exact ih3 _ _ _ _ _ _ _ _ _ _)
      | (with_reducible exact LeO.refl _)
      | (with_reducible exact LeO.none _)
      | (with_reducible refine LeO.ite ?_ ?_)
      | (with_reducible refine LeO.bind ?_ (fun _ => ?_))
      | exact ih0 _ _ _
      | exact ih1 _ _ _ _ _
      | exact ih2 _ _ _ _ _
      | exact ih3 _ _ _ _ _ _ _ _ _ _
      | exact LeO.none _
      | refine LeO.ite ?_ ?_
      | refine LeO.bind ?_ (fun _ => ?_)
set_option maxHeartbeats 8000000 in
set_option maxRecDepth 100000 in
theorem edit_Far.calls (k : Nat) (A0 : Option Addr) (c0 : Nat) (l0 : List Int) (A1 : Option Addr) (c1 : Nat) (l1 : List Int) (r1 : Int) (r2 : Int) (w : World) (hr0 : Kd.C (Kd.int .u8) w A0 l0.length l0) (hc0 : l0.length ≤ c0) (hr1 : Kd.C (Kd.int .u8) w A1 l1.length l1) (hc1 : l1.length ≤ c1) (h : edit_Far.f k l0 l1 = some (r1, r2)) :
    Calls Try.prog 41 #[.slice A0 l0.length c0, .slice A1 l1.length c1] w fun e w' => e = .returned (.tuple #[.int .i64 r1, .int .i64 r2]) ∧ Below w.heap.size w w' := by
  have HR0 := Aside0.mk hr0
  have HC0 := Aside0.mk hc0
  clear hr0 hc0
  have HR1 := Aside0.mk hr1
  have HC1 := Aside0.mk hc1
  clear hr1 hc1
  have HB := Aside0.mk (Below.refl w.heap.size w)
  have H : (if (l0.length : Int) > 60 then (edit_Far.j0 k l0 l1 true) else (edit_Far.j0 k l0 l1 (decide ((l1.length : Int) > 60)))) = some (r1, r2) := h
  clear h
  have HC3 := Aside0.mk H
  clear H
  go_enter Try.func41, Try.ntmps41
  go_upto_region 1 with (fail)
  go_cut [21] (fun v21 wc => ∃ (kq : Nat) (x21_2 : Bool), v21 = .bool x21_2 ∧ Aside0 (edit_Far.j0 kq l0 l1 x21_2 = some (r1, r2)) ∧ Aside0 (kq ≤ k) ∧ Aside0 (Below w.heap.size w wc))
  case first =>
    have H := HC3.out
    clear HC3
    by_cases c4 : (l0.length : Int) > 60
    · rw [if_pos c4] at H
      have c4b0 : decide (60 < (l0.length : Int)) = true := decide_eq_true c4
      have c4b1 : decide (60 < l0.length) = true := decide_eq_true (by omega)
      clear c4
      (first | rw [c4b0] | (simp only [i64_w, i32_w]; rw [c4b0]) | skip)
      have H' := Aside0.mk H
      clear H
      go_wp2
      go_meet
      case rel => exact ⟨_, (true), (by first | rfl | (simp; done) | (simp [*]; done)), H', ⟨by first | omega | exact Nat.le_refl _⟩, ⟨by repeat (first | (with_reducible first | exact HB.out | apply below_alloc | apply pw_below_drewN | apply below_drew1) | exact HB.out)⟩⟩
    · rw [if_neg c4] at H
      have c4b0 : decide (60 < (l0.length : Int)) = false := decide_eq_false c4
      have c4b1 : decide (60 < l0.length) = false := decide_eq_false (by omega)
      clear c4
      (first | rw [c4b0] | (simp only [i64_w, i32_w]; rw [c4b0]) | skip)
      have H' := Aside0.mk H
      clear H
      go_wp2
      go_meet
      case rel => exact ⟨_, (decide ((l1.length : Int) > 60)), (by first | rfl | (simp; done) | (simp [*]; done)), H', ⟨by first | omega | exact Nat.le_refl _⟩, ⟨by repeat (first | (with_reducible first | exact HB.out | apply below_alloc | apply pw_below_drewN | apply below_drew1) | exact HB.out)⟩⟩
  case rest =>
    clear HC3
    try clear c1
    try clear p2
    try clear c4
    try clear c4b0
    try clear c4b1
    obtain ⟨kq, x21_2, rfl, HA, HJ2, HB⟩ := hcut
    cases kq with
    | zero => exact absurd HA.out (by simp [edit_Far.j0])
    | succ kj2 =>
      have H := HA.out
      clear HA
      simp only [edit_Far.j0] at H
      by_cases c5 : x21_2 = true
      · subst c5
        have H1 : (some (0, 1)) = some (r1, r2) := by rw [if_pos rfl] at H; exact H
        clear H
        have H := H1
        clear H1
        simp only [Option.some.injEq, Prod.mk.injEq] at H
        obtain ⟨rfl, rfl⟩ := H
        go_wp2
        go_ret2
        exact ⟨by first | rfl | (simp [errW_none, errW_some] <;> rfl) | (simp [*, errW_none, errW_some] <;> rfl), by repeat (first | (with_reducible first | exact HB.out | apply below_alloc | apply pw_below_drewN | apply below_drew1) | exact HB.out)⟩
      · replace c5 := Bool.eq_false_iff.mpr c5
        subst c5
        have H1 : (if 0 ≤ (wrap64 ((l1.length : Int) + 1)) then (if (wrap64 ((l1.length : Int) + 1) : Int).toNat ≤ 35184372088832 then ((some (List.replicate (wrap64 ((l1.length : Int) + 1) : Int).toNat 0 : List Int)).bind fun y140 => (edit_Far.l0 kj2 l0 l1 y140 (y140.length : Int) 0)) else (none)) else (none)) = some (r1, r2) := by rw [if_neg (show ¬ (false = true) by decide)] at H; exact H
        clear H
        have H := H1
        clear H1
        obtain ⟨ji6, hji6⟩ : ∃ j_ : Int, (wrap64 ((l1.length : Int) + 1)) = j_ := ⟨_, rfl⟩
        replace H : (if 0 ≤ (ji6) then (if (ji6 : Int).toNat ≤ 35184372088832 then ((some (List.replicate (ji6 : Int).toNat 0 : List Int)).bind fun y140 => (edit_Far.l0 kj2 l0 l1 y140 (y140.length : Int) 0)) else (none)) else (none)) = some (r1, r2) := by first | (rw [hji6] at H; exact H) | (simp only [hji6] at H ⊢; exact H)
        have hji6w : (IntKind.i64.wrap ((l1.length : Int) + 1)) = ji6 := (i64_w _).trans hji6
        by_cases c7 : 0 ≤ (ji6)
        · rw [if_pos c7] at H
          have c7b0 := eq_true c7
          have c7b1 : decide (0 ≤ (ji6)) = true := decide_eq_true c7
          clear c7
          by_cases c8 : (ji6 : Int).toNat ≤ 35184372088832
          · rw [if_pos c8] at H
            have c8b0 := eq_true c8
            have c8b1 : decide ((ji6 : Int).toNat ≤ 35184372088832) = true := decide_eq_true c8
            clear c8
            obtain ⟨y140, hy140⟩ : ∃ y_ : List Int, y_ = (List.replicate (ji6 : Int).toNat 0) := ⟨_, rfl⟩
            replace H : (edit_Far.l0 kj2 l0 l1 y140 (y140.length : Int) 0) = some (r1, r2) := by first | (rw [hy140]; with_reducible exact H) | (have H2_ := (Option.bind_some _ _).symm.trans H; rw [hy140]; with_reducible exact H2_) | (have H2_ := (Option.bind_some _ _).symm.trans H; with_reducible exact H2_) | with_reducible exact H | (rw [hy140]; exact H) | exact H
            have Ny140 := Aside0.mk hy140
            clear hy140
            have H' := Aside0.mk H
            clear H
            go_wp2_with (first | ((with_reducible refine gate_dst (N := 25) rfl ?_); (try (refine gate_guard (by rfl) ?_; dsimp only)); refine Kd.R_make (Kd.int .i64) _ 3 rfl (N := 25) rfl 23 _ _ rfl ji6 rfl rfl Try.underlying23 (.int .i64 0) 8 info3 rfl (by decide) (by omega) 0 (ok := fun _ => True) (okp := fun _ => True) rfl (fun _ hk => hk) trivial (of_decide_eq_true (by first | (with_reducible assumption) | assumption)) (Nat.le_trans (Nat.mul_le_mul_right _ (of_decide_eq_true (by first | (with_reducible assumption) | assumption) : ji6.toNat ≤ 35184372088832)) (by omega)) (Below.refl _ _) (Nat.le_refl _) ?_; intro v141 w9 ho10 hb hg_ hnew_; clear hg_ hnew_; (first | rw [← Ny140.out] at ho10 | (simp only [Int.reduceToNat] at ho10; rw [← Ny140.out] at ho10)); have n0_ := Aside0.mk (Kd.R_lower ho10 (below_size (by repeat (first | (with_reducible first | exact HB.out | apply below_alloc | apply pw_below_drewN | apply below_drew1) | exact HB.out)))); have n1_ := Aside0.mk (below_step (by repeat (first | (with_reducible first | exact HB.out | apply below_alloc | apply pw_below_drewN | apply below_drew1) | exact HB.out)) hb); clear HB; have HO142 := n0_; have HB := n1_; clear n0_ n1_; clear hb ho10; obtain ⟨Ao11, co11, eo11⟩ := Kd.R_slice HO142.out; subst eo11))
            go_loopg [28] kj2 (fun kq v28 w' => ∃ (x6_2 : List Int) (x28_2 : Int), v28 = .int .i64 x28_2 ∧ Aside0 (edit_Far.l0 kq l0 l1 x6_2 (y140.length : Int) x28_2 = some (r1, r2)) ∧ Aside0 (kq ≤ kj2) ∧ Aside0 (Kd.R (Kd.int .i64) 3 w' w.heap.size (fun _ => True) (.slice Ao11 y140.length co11) x6_2) ∧ Aside0 (Below w.heap.size w w'))
            case atStart => exact ⟨(y140), (0), (by first | rfl | (simp; done) | (simp [*]; done)), H', ⟨Nat.le_refl _⟩, ⟨by (with_reducible repeat (first | apply Kd.R_alloc | apply Kd.R_drewN | apply Kd.R_drew)); exact HO142.out⟩, ⟨by repeat (first | (with_reducible first | exact HB.out | apply below_alloc | apply pw_below_drewN | apply below_drew1) | exact HB.out)⟩⟩
            case round =>
              clear H'
              try clear c1
              try clear p2
              try clear c4
              try clear c4b0
              try clear c4b1
              try clear c5
              try clear p6
              try clear c7
              try clear c7b0
              try clear c7b1
              try clear c8
              try clear c8b0
              try clear c8b1
              try clear p2
              obtain ⟨x6_2, x28_2, rfl, HA, HK2, HO_6, HB⟩ := hrel
              have hl6_2 := (Kd.R_reads' HO_6.out).1
              rw [hl6_2] at HO_6
              (try simp only [hl6_2])
              cases gk with
              | zero => exact absurd HA.out (by simp [edit_Far.l0])
              | succ k2 =>
                have H := HA.out
                clear HA
                simp only [edit_Far.l0] at H
                by_cases c12 : x28_2 < (y140.length : Int)
                · rw [if_pos c12] at H
                  have c12b0 : decide (x28_2 < (y140.length : Int)) = true := decide_eq_true c12
                  (try (have c12b0h := c12b0; simp only [hl6_2] at c12b0h))
                  clear c12
                  by_cases c13 : 0 ≤ x28_2
                  · rw [if_pos c13] at H
                    have c13b0 : decide (0 ≤ x28_2) = true := decide_eq_true c13
                    clear c13
                    by_cases c14 : x28_2 < (x6_2.length : Int)
                    · rw [if_pos c14] at H
                      have c14b0 : decide (x28_2 < (x6_2.length : Int)) = true := decide_eq_true c14
                      (try (have c14b0h := c14b0; simp only [hl6_2] at c14b0h))
                      clear c14
                      obtain ⟨y143, hy143⟩ : ∃ y_ : List Int, y_ = (x6_2.set (x28_2 : Int).toNat x28_2) := ⟨_, rfl⟩
                      replace H : (edit_Far.l0 k2 l0 l1 y143 (y140.length : Int) (wrap64 (x28_2 + 1))) = some (r1, r2) := by first | (rw [hy143]; with_reducible exact H) | (have H2_ := (Option.bind_some _ _).symm.trans H; rw [hy143]; with_reducible exact H2_) | (have H2_ := (Option.bind_some _ _).symm.trans H; with_reducible exact H2_) | with_reducible exact H | (rw [hy143]; exact H) | exact H
                      have Ny143 := Aside0.mk hy143
                      clear hy143
                      have H' := Aside0.mk H
                      clear H
                      have p15 : 0 ≤ (x28_2 : Int) := of_decide_eq_true (by first | (with_reducible assumption) | assumption)
                      have q15 : (x28_2 : Int) < ((x6_2.length : Int) : Int) := of_decide_eq_true (by first | (with_reducible assumption) | assumption)
                      obtain ⟨go15, co15, eo15, gb15, gl15, cl15, HG15⟩ := Kd.R_form HO_6.out (by omega)
                      (first | cases eo15 | (injection eo15 with ea_ en_ ec_; (first | subst ea_ | (injection ea_ with ea_; subst ea_)); subst ec_; clear en_))
                      have GB15 := Aside0.mk gb15
                      have GG15 := Aside0.mk HG15
                      clear gb15 gl15 HG15
                      obtain ⟨hx15_0, hf15_0⟩ := Kd.R_celln 0 HO_6.out (x28_2 : Int) p15 q15
                      replace p15 := eq_true p15
                      replace q15 := eq_true q15
                      have HP16 := Kd.R_putg HO_6.out (x28_2 : Int) x28_2
                      go_wp2_with (first | ((with_reducible refine gate_store (t := 3) (p := 34) rfl ?_); refine store_event (t := 3) (p := 34) (v := ?vo_w17) (w1 := (wr.setCell ⟨go15, (x28_2 : Int).toNat, none⟩ (.int .i64 x28_2))) ?hg ?ho ?hn ?hr ?_; (case ho => rfl); (case hg => rfl); (case hn => rfl); (case hr => first | (go_simp; done) | (go_simp; rfl)); intro w17 hw; have hg : wr.grownBy w17 (some go15) := (by rw [hw]; exact HP16.2); have hp_ : Kd.R (Kd.int .i64) 3 w17 w.heap.size (fun _ => True) (.slice (some ⟨go15, 0, none⟩) x6_2.length co11) y143 := (by rw [hw, Ny143.out]; exact HP16.1); clear HP16; have n0_ := Aside0.mk (hp_); have n1_ := Aside0.mk ((by rw [hw]; exact below_set (HB.out) GB15.out : Below w.heap.size w w17)); clear HO_6; clear HB; have HO_6 := n0_; have HB := n1_; clear n0_ n1_; clear hg hw hp_))
                      (try simp only [← hl6_2])
                      first | go_roundg k2 | ((simp only [← hji6]); go_roundg k2)
                      case measure => have := HJ2.out; have := HK2.out; omega
                      case rel => exact ⟨(y143), (wrap64 (x28_2 + 1)), (by first | rfl | (simp; done) | (simp [*]; done)), (by first | exact H' | ((simp only [hji6]); exact H') | (have h_ := H'.out; simp only [← hji6] at h_ ⊢; exact ⟨h_⟩)), ⟨by have := HJ2.out; have := HK2.out; omega⟩, ⟨by (try simp only [hl6_2]); (with_reducible repeat (first | apply Kd.R_alloc | apply Kd.R_drewN | apply Kd.R_drew)); exact HO_6.out⟩, ⟨by repeat (first | (with_reducible first | exact HB.out | apply below_alloc | apply pw_below_drewN | apply below_drew1) | exact HB.out)⟩⟩
                    · rw [if_neg c14] at H
                      exact absurd H (by simp)
                  · rw [if_neg c13] at H
                    exact absurd H (by simp)
                · rw [if_neg c12] at H
                  have c12b0 : decide (x28_2 < (y140.length : Int)) = false := decide_eq_false c12
                  (try (have c12b0h := c12b0; simp only [hl6_2] at c12b0h))
                  clear c12
                  have H' := Aside0.mk H
                  clear H
                  go_wp2
                  go_loopg [38] k2 (fun kq v38 w' => ∃ (x6_3 : List Int) (x38_3 : Int), v38 = .int .i64 x38_3 ∧ Aside0 (edit_Far.l1 kq l1 x6_3 l0 (l0.length : Int) x38_3 = some (r1, r2)) ∧ Aside0 (kq ≤ k2) ∧ Aside0 (Kd.R (Kd.int .i64) 3 w' w.heap.size (fun _ => True) (.slice Ao11 x6_2.length co11) x6_3) ∧ Aside0 (Below w.heap.size w w'))
                  case atStart => exact ⟨(x6_2), (0), (by first | rfl | (simp; done) | (simp [*]; done)), H', ⟨Nat.le_refl _⟩, ⟨by (try simp only [hl6_2]); (with_reducible repeat (first | apply Kd.R_alloc | apply Kd.R_drewN | apply Kd.R_drew)); exact HO_6.out⟩, ⟨by repeat (first | (with_reducible first | exact HB.out | apply below_alloc | apply pw_below_drewN | apply below_drew1) | exact HB.out)⟩⟩
                  case round =>
                    clear H'
                    try clear c1
                    try clear p1
                    try clear q1
                    try clear hx1
                    try clear p2
                    try clear c4
                    try clear c4b0
                    try clear c4b1
                    try clear c5
                    try clear p6
                    try clear c7
                    try clear c7b0
                    try clear c7b1
                    try clear c8
                    try clear c8b0
                    try clear c8b1
                    try clear c12
                    try clear c12b0
                    try clear c13
                    try clear c13b0
                    try clear c14
                    try clear c14b0
                    try clear p15
                    try clear q15
                    try clear hx15
                    try clear hf15
                    try clear hx15_0
                    try clear p15
                    try clear p2
                    try clear p6
                    try clear q15
                    obtain ⟨x6_3, x38_3, rfl, HA, HK3, HO_6, HB⟩ := hrel
                    have hl6_3 := (Kd.R_reads' HO_6.out).1
                    rw [hl6_3] at HO_6
                    (try simp only [hl6_3])
                    cases gk with
                    | zero => exact absurd HA.out (by simp [edit_Far.l1])
                    | succ k3 =>
                      have H := HA.out
                      clear HA
                      simp only [edit_Far.l1] at H
                      by_cases c18 : x38_3 < (l0.length : Int)
                      · rw [if_pos c18] at H
                        have c18b0 : decide (x38_3 < (l0.length : Int)) = true := decide_eq_true c18
                        (try (have c18b0h := c18b0; simp only [hl6_2, hl6_3] at c18b0h))
                        clear c18
                        by_cases c19 : 0 ≤ x38_3
                        · rw [if_pos c19] at H
                          have c19b0 : decide (0 ≤ x38_3) = true := decide_eq_true c19
                          clear c19
                          by_cases c20 : x38_3 < (l0.length : Int)
                          · rw [if_pos c20] at H
                            have c20b0 : decide (x38_3 < (l0.length : Int)) = true := decide_eq_true c20
                            (try (have c20b0h := c20b0; simp only [hl6_2, hl6_3] at c20b0h))
                            clear c20
                            by_cases c21 : 0 < (x6_3.length : Int)
                            · rw [if_pos c21] at H
                              have c21b0 : decide (0 < (x6_3.length : Int)) = true := decide_eq_true c21
                              have c21b1 : decide (0 < x6_3.length) = true := decide_eq_true (by omega)
                              (try (have c21b0h := c21b0; simp only [hl6_2, hl6_3] at c21b0h))
                              (try (have c21b1h := c21b1; simp only [hl6_2, hl6_3] at c21b1h))
                              clear c21
                              obtain ⟨y147, hy147⟩ : ∃ y_ : List Int, y_ = (x6_3.set (0 : Int).toNat (wrap64 (x38_3 + 1))) := ⟨_, rfl⟩
                              replace H : (edit_Far.l2 k3 l1 y147 (rd l0 x38_3) (rd x6_3 0) l0 (l0.length : Int) x38_3 l1 (l1.length : Int) 0) = some (r1, r2) := by first | (rw [hy147]; with_reducible exact H) | (have H2_ := (Option.bind_some _ _).symm.trans H; rw [hy147]; with_reducible exact H2_) | (have H2_ := (Option.bind_some _ _).symm.trans H; with_reducible exact H2_) | with_reducible exact H | (rw [hy147]; exact H) | exact H
                              have Ny147 := Aside0.mk hy147
                              clear hy147
                              have H' := Aside0.mk H
                              clear H
                              have p145 : 0 ≤ (x38_3 : Int) := of_decide_eq_true (by first | (with_reducible assumption) | assumption)
                              have q145 : x38_3 < (l0.length : Int) := of_decide_eq_true (by first | (with_reducible assumption) | assumption)
                              obtain ⟨ad145, e145, hx145_0⟩ := Kd.at_int HR0.out x38_3 p145 q145
                              cases e145
                              replace hx145_0 := (HB.out.cell (World.block_lt_of_cell? w _ hx145_0)).trans hx145_0
                              replace p145 := eq_true p145
                              replace q145 := eq_true q145
                              have p146 : 0 ≤ (0 : Int) := (by omega)
                              have q146 : 0 < (x6_3.length : Int) := of_decide_eq_true (by first | (with_reducible assumption) | assumption)
                              obtain ⟨ad146, e146, hx146_0⟩ := Kd.at_int (Kd.R_reads' HO_6.out).2.2 0 p146 q146
                              cases e146
                              have qi146 : (0 < x6_3.length) = True := eq_true (by omega)
                              (try rw [show ((0 : Int)).toNat = 0 from rfl] at hx146_0)
                              (try rw [Addr.add_zero'] at hx146_0)
                              replace p146 := eq_true p146
                              replace q146 := eq_true q146
                              have p22 : 0 ≤ (0 : Int) := (by omega)
                              have q22 : (0 : Int) < ((x6_3.length : Int) : Int) := of_decide_eq_true (by first | (with_reducible assumption) | assumption)
                              have qi22 : (0 < x6_3.length) = True := eq_true (by omega)
                              obtain ⟨go22, co22, eo22, gb22, gl22, cl22, HG22⟩ := Kd.R_form HO_6.out (by omega)
                              (first | cases eo22 | (injection eo22 with ea_ en_ ec_; (first | subst ea_ | (injection ea_ with ea_; subst ea_)); subst ec_; clear en_))
                              have GB22 := Aside0.mk gb22
                              have GG22 := Aside0.mk HG22
                              clear gb22 gl22 HG22
                              (first | simp only [add_plain] at hx146_0 | skip)
                              obtain ⟨hx22_0, hf22_0⟩ := Kd.R_celln 0 HO_6.out (0 : Int) p22 q22
                              (try rw [show ((0 : Int)).toNat = 0 from rfl] at hx22_0)
                              (try simp only [Nat.reduceMul, Nat.zero_mul, Nat.zero_add, Nat.reduceAdd] at hx22_0)
                              (try rw [show ((0 : Int)).toNat = 0 from rfl] at hf22_0)
                              (try simp only [Nat.reduceMul, Nat.zero_mul, Nat.zero_add, Nat.reduceAdd] at hf22_0)
                              replace p22 := eq_true p22
                              replace q22 := eq_true q22
                              have HP23 := Kd.R_putg HO_6.out (0 : Int) (wrap64 (x38_3 + 1))
                              go_wp2_with (first | ((with_reducible refine gate_store (t := 3) (p := 49) rfl ?_); refine store_event (t := 3) (p := 49) (v := ?vo_w24) (w1 := (wr.setCell ⟨go22, (0 : Int).toNat, none⟩ (.int .i64 (wrap64 (x38_3 + 1))))) ?hg ?ho ?hn ?hr ?_; (case ho => rfl); (case hg => rfl); (case hn => rfl); (case hr => first | (go_simp; done) | (go_simp; rfl)); intro w24 hw; have hg : wr.grownBy w24 (some go22) := (by rw [hw]; exact HP23.2); have hp_ : Kd.R (Kd.int .i64) 3 w24 w.heap.size (fun _ => True) (.slice (some ⟨go22, 0, none⟩) x6_3.length co11) y147 := (by rw [hw, Ny147.out]; exact HP23.1); clear HP23; have n0_ := Aside0.mk (hp_); have n1_ := Aside0.mk ((by rw [hw]; exact below_set (HB.out) GB22.out : Below w.heap.size w w24)); clear HO_6; clear HB; have HO_6 := n0_; have HB := n1_; clear n0_ n1_; clear hg hw hp_))
                              go_loopg [10, 52] k3 (fun kq v10 v52 w' => ∃ (x6_4 : List Int) (x10_4 : Int) (x52_4 : Int), v10 = .int .i64 x10_4 ∧ v52 = .int .i64 x52_4 ∧ Aside0 (edit_Far.l2 kq l1 x6_4 (rd l0 x38_3) x10_4 l0 (l0.length : Int) x38_3 l1 (l1.length : Int) x52_4 = some (r1, r2)) ∧ Aside0 (kq ≤ k3) ∧ Aside0 (Kd.R (Kd.int .i64) 3 w' w.heap.size (fun _ => True) (.slice (some ⟨go22, 0, none⟩) x6_3.length co11) x6_4) ∧ Aside0 (Below w.heap.size w w'))
                              case atStart => exact ⟨(y147), (rd x6_3 0), (0), (by first | rfl | (simp; done) | (simp [*]; done)), (by first | rfl | (simp; done) | (simp [*]; done)), H', ⟨Nat.le_refl _⟩, ⟨by (try simp only [hl6_2]); (try simp only [hl6_3]); (with_reducible repeat (first | apply Kd.R_alloc | apply Kd.R_drewN | apply Kd.R_drew)); exact HO_6.out⟩, ⟨by repeat (first | (with_reducible first | exact HB.out | apply below_alloc | apply pw_below_drewN | apply below_drew1) | exact HB.out)⟩⟩
                              case round =>
                                clear H'
                                try clear c1
                                try clear p1
                                try clear q1
                                try clear hx1
                                try clear qi1
                                try clear c2
                                try clear p2
                                try clear q2
                                try clear hx2
                                try clear qi2
                                try clear hf2
                                try clear c4
                                try clear c4b0
                                try clear c4b1
                                try clear c5
                                try clear p6
                                try clear c7
                                try clear c7b0
                                try clear c7b1
                                try clear c8
                                try clear c8b0
                                try clear c8b1
                                try clear c12
                                try clear c12b0
                                try clear c13
                                try clear c13b0
                                try clear c14
                                try clear c14b0
                                try clear p14
                                try clear q14
                                try clear hx14
                                try clear qi14
                                try clear p15
                                try clear q15
                                try clear hx15
                                try clear hf15
                                try clear c18
                                try clear c18b0
                                try clear c19
                                try clear c19b0
                                try clear c20
                                try clear c20b0
                                try clear c21
                                try clear c21b0
                                try clear c21b1
                                try clear p22
                                try clear q22
                                try clear hx22
                                try clear qi22
                                try clear hf22
                                try clear hx145_0
                                try clear hx146_0
                                try clear hx15_0
                                try clear hx22_0
                                try clear p1
                                try clear p145
                                try clear p146
                                try clear p15
                                try clear p2
                                try clear p22
                                try clear p6
                                try clear q1
                                try clear q145
                                try clear q146
                                try clear q15
                                try clear q22
                                obtain ⟨x6_4, x10_4, x52_4, rfl, rfl, HA, HK4, HO_6, HB⟩ := hrel
                                have hl6_4 := (Kd.R_reads' HO_6.out).1
                                rw [hl6_4] at HO_6
                                (try simp only [hl6_4])
                                cases gk with
                                | zero => exact absurd HA.out (by simp [edit_Far.l2])
                                | succ k4 =>
                                  have H := HA.out
                                  clear HA
                                  simp only [edit_Far.l2] at H
                                  by_cases c25 : x52_4 < (l1.length : Int)
                                  · rw [if_pos c25] at H
                                    have c25b0 : decide (x52_4 < (l1.length : Int)) = true := decide_eq_true c25
                                    (try (have c25b0h := c25b0; simp only [hl6_2, hl6_3, hl6_4] at c25b0h))
                                    clear c25
                                    by_cases c26 : 0 ≤ x52_4
                                    · rw [if_pos c26] at H
                                      have c26b0 : decide (0 ≤ x52_4) = true := decide_eq_true c26
                                      clear c26
                                      by_cases c27 : x52_4 < (l1.length : Int)
                                      · rw [if_pos c27] at H
                                        have c27b0 : decide (x52_4 < (l1.length : Int)) = true := decide_eq_true c27
                                        (try (have c27b0h := c27b0; simp only [hl6_2, hl6_3, hl6_4] at c27b0h))
                                        clear c27
                                        by_cases c28 : (rd l0 x38_3) = (rd l1 x52_4)
                                        · rw [if_pos c28] at H
                                          have c28b0 : ((rd l0 x38_3) == (rd l1 x52_4)) = true := beq_iff_eq.mpr c28
                                          have c28b1 : ((rd l0 x38_3) != (rd l1 x52_4)) = false := bne_eq_false_iff_eq.mpr c28
                                          clear c28
                                          obtain ⟨ji29, hji29⟩ : ∃ j_ : Int, (wrap64 (x52_4 + 1)) = j_ := ⟨_, rfl⟩
                                          replace H : (if 0 ≤ (ji29) then (if (ji29) < (x6_4.length : Int) then (if x52_4 < (x6_4.length : Int) then (edit_Far.l2 k4 l1 (x6_4.set ((ji29) : Int).toNat (mn (mn x10_4 (wrap64 ((rd x6_4 x52_4) + 1))) (wrap64 ((rd x6_4 (ji29)) + 1)))) (rd l0 x38_3) (rd x6_4 (ji29)) l0 (l0.length : Int) x38_3 l1 (l1.length : Int) ji29) else (none)) else (none)) else (none)) = some (r1, r2) := by first | (rw [hji29] at H; exact H) | (simp only [hji29] at H ⊢; exact H)
                                          have hji29w : (IntKind.i64.wrap (x52_4 + 1)) = ji29 := (i64_w _).trans hji29
                                          by_cases c30 : 0 ≤ (ji29)
                                          · rw [if_pos c30] at H
                                            have c30b0 : decide (0 ≤ (ji29)) = true := decide_eq_true c30
                                            clear c30
                                            by_cases c31 : (ji29) < (x6_4.length : Int)
                                            · rw [if_pos c31] at H
                                              have c31b0 : decide ((ji29) < (x6_4.length : Int)) = true := decide_eq_true c31
                                              (try (have c31b0h := c31b0; simp only [hl6_2, hl6_3, hl6_4] at c31b0h))
                                              clear c31
                                              by_cases c32 : x52_4 < (x6_4.length : Int)
                                              · rw [if_pos c32] at H
                                                have c32b0 : decide (x52_4 < (x6_4.length : Int)) = true := decide_eq_true c32
                                                (try (have c32b0h := c32b0; simp only [hl6_2, hl6_3, hl6_4] at c32b0h))
                                                clear c32
                                                obtain ⟨ji33, hji33⟩ : ∃ j_ : Int, (mn x10_4 (wrap64 ((rd x6_4 x52_4) + 1))) = j_ := ⟨_, rfl⟩
                                                replace H : (edit_Far.l2 k4 l1 (x6_4.set ((ji29) : Int).toNat (mn (ji33) (wrap64 ((rd x6_4 (ji29)) + 1)))) (rd l0 x38_3) (rd x6_4 (ji29)) l0 (l0.length : Int) x38_3 l1 (l1.length : Int) ji29) = some (r1, r2) := by first | (rw [hji33] at H; exact H) | (simp only [hji33] at H ⊢; exact H)
                                                have hji33_ : (if (wrap64 ((rd x6_4 x52_4) + 1)) < x10_4 then (wrap64 ((rd x6_4 x52_4) + 1)) else x10_4) = ji33 := hji33
                                                obtain ⟨ji34, hji34⟩ : ∃ j_ : Int, (mn (ji33) (wrap64 ((rd x6_4 (ji29)) + 1))) = j_ := ⟨_, rfl⟩
                                                replace H : (edit_Far.l2 k4 l1 (x6_4.set ((ji29) : Int).toNat (ji34)) (rd l0 x38_3) (rd x6_4 (ji29)) l0 (l0.length : Int) x38_3 l1 (l1.length : Int) ji29) = some (r1, r2) := by first | (rw [hji34] at H; exact H) | (simp only [hji34] at H ⊢; exact H)
                                                have hji34_ : (if (wrap64 ((rd x6_4 (ji29)) + 1)) < (ji33) then (wrap64 ((rd x6_4 (ji29)) + 1)) else (ji33)) = ji34 := hji34
                                                obtain ⟨y151, hy151⟩ : ∃ y_ : List Int, y_ = (x6_4.set ((ji29) : Int).toNat (ji34)) := ⟨_, rfl⟩
                                                replace H : (edit_Far.l2 k4 l1 y151 (rd l0 x38_3) (rd x6_4 (ji29)) l0 (l0.length : Int) x38_3 l1 (l1.length : Int) ji29) = some (r1, r2) := by first | (rw [hy151]; with_reducible exact H) | (have H2_ := (Option.bind_some _ _).symm.trans H; rw [hy151]; with_reducible exact H2_) | (have H2_ := (Option.bind_some _ _).symm.trans H; with_reducible exact H2_) | with_reducible exact H | (rw [hy151]; exact H) | exact H
                                                have Ny151 := Aside0.mk hy151
                                                clear hy151
                                                have H' := Aside0.mk H
                                                clear H
                                                have p148 : 0 ≤ (x52_4 : Int) := of_decide_eq_true (by first | (with_reducible assumption) | assumption)
                                                have q148 : x52_4 < (l1.length : Int) := of_decide_eq_true (by first | (with_reducible assumption) | assumption)
                                                obtain ⟨ad148, e148, hx148_0⟩ := Kd.at_int HR1.out x52_4 p148 q148
                                                cases e148
                                                replace hx148_0 := (HB.out.cell (World.block_lt_of_cell? w _ hx148_0)).trans hx148_0
                                                replace p148 := eq_true p148
                                                replace q148 := eq_true q148
                                                have p149 : 0 ≤ ((ji29) : Int) := of_decide_eq_true (by first | (with_reducible assumption) | assumption)
                                                have q149 : (ji29) < (x6_4.length : Int) := of_decide_eq_true (by first | (with_reducible assumption) | assumption)
                                                obtain ⟨ad149, e149, hx149_0⟩ := Kd.at_int (Kd.R_reads' HO_6.out).2.2 (ji29) p149 q149
                                                obtain rfl : (⟨go22, 0, none⟩ : Addr) = ad149 := (by injection e149)
                                                (first | simp only [add_plain] at hx149_0 | simp only [add_at] at hx149_0 | simp only [Addr.add, Nat.zero_add] at hx149_0 | skip)
                                                replace p149 := eq_true p149
                                                replace q149 := eq_true q149
                                                have p150 : 0 ≤ (x52_4 : Int) := of_decide_eq_true (by first | (with_reducible assumption) | assumption)
                                                have q150 : x52_4 < (x6_4.length : Int) := of_decide_eq_true (by first | (with_reducible assumption) | assumption)
                                                obtain ⟨ad150, e150, hx150_0⟩ := Kd.at_int (Kd.R_reads' HO_6.out).2.2 x52_4 p150 q150
                                                obtain rfl : (⟨go22, 0, none⟩ : Addr) = ad150 := (by injection e150)
                                                (first | simp only [add_plain] at hx150_0 | simp only [add_at] at hx150_0 | simp only [Addr.add, Nat.zero_add] at hx150_0 | skip)
                                                replace p150 := eq_true p150
                                                replace q150 := eq_true q150
                                                have p35 : 0 ≤ ((ji29) : Int) := of_decide_eq_true (by first | (with_reducible assumption) | assumption)
                                                have q35 : ((ji29) : Int) < ((x6_4.length : Int) : Int) := of_decide_eq_true (by first | (with_reducible assumption) | assumption)
                                                obtain ⟨hx35_0, hf35_0⟩ := Kd.R_celln 0 HO_6.out ((ji29) : Int) p35 q35
                                                replace p35 := eq_true p35
                                                replace q35 := eq_true q35
                                                have HP36 := Kd.R_putg HO_6.out ((ji29) : Int) ji34
                                                go_wp2_with (first | ((with_reducible refine gate_store (t := 3) (p := 80) rfl ?_); refine store_event (t := 3) (p := 80) (v := ?vo_w37) (w1 := (wr.setCell ⟨go22, ((ji29) : Int).toNat, none⟩ (.int .i64 ji34))) ?hg ?ho ?hn ?hr ?_; (case ho => rfl); (case hg => rfl); (case hn => rfl); (case hr => first | (go_simp; done) | (go_simp; rfl)); intro w37 hw; have hg : wr.grownBy w37 (some go22) := (by rw [hw]; exact HP36.2); have hp_ : Kd.R (Kd.int .i64) 3 w37 w.heap.size (fun _ => True) (.slice (some ⟨go22, 0, none⟩) x6_4.length co11) y151 := (by rw [hw, Ny151.out]; exact HP36.1); clear HP36; have n0_ := Aside0.mk (hp_); have n1_ := Aside0.mk ((by rw [hw]; exact below_set (HB.out) GB22.out : Below w.heap.size w w37)); clear HO_6; clear HB; have HO_6 := n0_; have HB := n1_; clear n0_ n1_; clear hg hw hp_))
                                                (try simp only [← hl6_4])
                                                first | go_roundg k4 | ((simp only [← hji6, ← hji29, ← hji33, ← hji34]); go_roundg k4)
                                                case measure => have := HJ2.out; have := HK2.out; have := HK3.out; have := HK4.out; omega
                                                case rel => exact ⟨(y151), (rd x6_4 (ji29)), (ji29), (by first | rfl | (simp; done) | (simp only [← hji29] <;> (first | rfl | simp)) | (simp [*]; done)), (by first | rfl | (simp; done) | (simp only [← hji29] <;> (first | rfl | simp)) | (simp [*]; done)), (by first | exact H' | ((simp only [hji6, hji29, hji33, hji34]); exact H') | (have h_ := H'.out; simp only [← hji6, ← hji29, ← hji33, ← hji34] at h_ ⊢; exact ⟨h_⟩)), ⟨by have := HJ2.out; have := HK2.out; have := HK3.out; have := HK4.out; omega⟩, ⟨by (try simp only [hl6_2]); (try simp only [hl6_3]); (try simp only [hl6_4]); (with_reducible repeat (first | apply Kd.R_alloc | apply Kd.R_drewN | apply Kd.R_drew)); exact HO_6.out⟩, ⟨by repeat (first | (with_reducible first | exact HB.out | apply below_alloc | apply pw_below_drewN | apply below_drew1) | exact HB.out)⟩⟩
                                              · rw [if_neg c32] at H
                                                exact absurd H (by simp)
                                            · rw [if_neg c31] at H
                                              exact absurd H (by simp)
                                          · rw [if_neg c30] at H
                                            exact absurd H (by simp)
                                        · rw [if_neg c28] at H
                                          have c28b0 : ((rd l0 x38_3) == (rd l1 x52_4)) = false := beq_eq_false_iff_ne.mpr c28
                                          have c28b1 : ((rd l0 x38_3) != (rd l1 x52_4)) = true := bne_iff_ne.mpr c28
                                          obtain ⟨ji38, hji38⟩ : ∃ j_ : Int, (wrap64 (x52_4 + 1)) = j_ := ⟨_, rfl⟩
                                          replace H : (if 0 ≤ (ji38) then (if (ji38) < (x6_4.length : Int) then (if x52_4 < (x6_4.length : Int) then (edit_Far.l2 k4 l1 (x6_4.set ((ji38) : Int).toNat (mn (mn (wrap64 (x10_4 + 1)) (wrap64 ((rd x6_4 x52_4) + 1))) (wrap64 ((rd x6_4 (ji38)) + 1)))) (rd l0 x38_3) (rd x6_4 (ji38)) l0 (l0.length : Int) x38_3 l1 (l1.length : Int) ji38) else (none)) else (none)) else (none)) = some (r1, r2) := by first | (rw [hji38] at H; exact H) | (simp only [hji38] at H ⊢; exact H)
                                          have hji38w : (IntKind.i64.wrap (x52_4 + 1)) = ji38 := (i64_w _).trans hji38
                                          by_cases c39 : 0 ≤ (ji38)
                                          · rw [if_pos c39] at H
                                            have c39b0 : decide (0 ≤ (ji38)) = true := decide_eq_true c39
                                            clear c39
                                            by_cases c40 : (ji38) < (x6_4.length : Int)
                                            · rw [if_pos c40] at H
                                              have c40b0 : decide ((ji38) < (x6_4.length : Int)) = true := decide_eq_true c40
                                              (try (have c40b0h := c40b0; simp only [hl6_2, hl6_3, hl6_4] at c40b0h))
                                              clear c40
                                              by_cases c41 : x52_4 < (x6_4.length : Int)
                                              · rw [if_pos c41] at H
                                                have c41b0 : decide (x52_4 < (x6_4.length : Int)) = true := decide_eq_true c41
                                                (try (have c41b0h := c41b0; simp only [hl6_2, hl6_3, hl6_4] at c41b0h))
                                                clear c41
                                                obtain ⟨ji42, hji42⟩ : ∃ j_ : Int, (mn (wrap64 (x10_4 + 1)) (wrap64 ((rd x6_4 x52_4) + 1))) = j_ := ⟨_, rfl⟩
                                                replace H : (edit_Far.l2 k4 l1 (x6_4.set ((ji38) : Int).toNat (mn (ji42) (wrap64 ((rd x6_4 (ji38)) + 1)))) (rd l0 x38_3) (rd x6_4 (ji38)) l0 (l0.length : Int) x38_3 l1 (l1.length : Int) ji38) = some (r1, r2) := by first | (rw [hji42] at H; exact H) | (simp only [hji42] at H ⊢; exact H)
                                                have hji42_ : (if (wrap64 ((rd x6_4 x52_4) + 1)) < (wrap64 (x10_4 + 1)) then (wrap64 ((rd x6_4 x52_4) + 1)) else (wrap64 (x10_4 + 1))) = ji42 := hji42
                                                obtain ⟨ji43, hji43⟩ : ∃ j_ : Int, (mn (ji42) (wrap64 ((rd x6_4 (ji38)) + 1))) = j_ := ⟨_, rfl⟩
                                                replace H : (edit_Far.l2 k4 l1 (x6_4.set ((ji38) : Int).toNat (ji43)) (rd l0 x38_3) (rd x6_4 (ji38)) l0 (l0.length : Int) x38_3 l1 (l1.length : Int) ji38) = some (r1, r2) := by first | (rw [hji43] at H; exact H) | (simp only [hji43] at H ⊢; exact H)
                                                have hji43_ : (if (wrap64 ((rd x6_4 (ji38)) + 1)) < (ji42) then (wrap64 ((rd x6_4 (ji38)) + 1)) else (ji42)) = ji43 := hji43
                                                obtain ⟨y154, hy154⟩ : ∃ y_ : List Int, y_ = (x6_4.set ((ji38) : Int).toNat (ji43)) := ⟨_, rfl⟩
                                                replace H : (edit_Far.l2 k4 l1 y154 (rd l0 x38_3) (rd x6_4 (ji38)) l0 (l0.length : Int) x38_3 l1 (l1.length : Int) ji38) = some (r1, r2) := by first | (rw [hy154]; with_reducible exact H) | (have H2_ := (Option.bind_some _ _).symm.trans H; rw [hy154]; with_reducible exact H2_) | (have H2_ := (Option.bind_some _ _).symm.trans H; with_reducible exact H2_) | with_reducible exact H | (rw [hy154]; exact H) | exact H
                                                have Ny154 := Aside0.mk hy154
                                                clear hy154
                                                have H' := Aside0.mk H
                                                clear H
                                                have p148 : 0 ≤ (x52_4 : Int) := of_decide_eq_true (by first | (with_reducible assumption) | assumption)
                                                have q148 : x52_4 < (l1.length : Int) := of_decide_eq_true (by first | (with_reducible assumption) | assumption)
                                                obtain ⟨ad148, e148, hx148_0⟩ := Kd.at_int HR1.out x52_4 p148 q148
                                                cases e148
                                                replace hx148_0 := (HB.out.cell (World.block_lt_of_cell? w _ hx148_0)).trans hx148_0
                                                replace p148 := eq_true p148
                                                replace q148 := eq_true q148
                                                have p152 : 0 ≤ ((ji38) : Int) := of_decide_eq_true (by first | (with_reducible assumption) | assumption)
                                                have q152 : (ji38) < (x6_4.length : Int) := of_decide_eq_true (by first | (with_reducible assumption) | assumption)
                                                obtain ⟨ad152, e152, hx152_0⟩ := Kd.at_int (Kd.R_reads' HO_6.out).2.2 (ji38) p152 q152
                                                obtain rfl : (⟨go22, 0, none⟩ : Addr) = ad152 := (by injection e152)
                                                (first | simp only [add_plain] at hx152_0 | simp only [add_at] at hx152_0 | simp only [Addr.add, Nat.zero_add] at hx152_0 | skip)
                                                replace p152 := eq_true p152
                                                replace q152 := eq_true q152
                                                have p153 : 0 ≤ (x52_4 : Int) := of_decide_eq_true (by first | (with_reducible assumption) | assumption)
                                                have q153 : x52_4 < (x6_4.length : Int) := of_decide_eq_true (by first | (with_reducible assumption) | assumption)
                                                obtain ⟨ad153, e153, hx153_0⟩ := Kd.at_int (Kd.R_reads' HO_6.out).2.2 x52_4 p153 q153
                                                obtain rfl : (⟨go22, 0, none⟩ : Addr) = ad153 := (by injection e153)
                                                (first | simp only [add_plain] at hx153_0 | simp only [add_at] at hx153_0 | simp only [Addr.add, Nat.zero_add] at hx153_0 | skip)
                                                replace p153 := eq_true p153
                                                replace q153 := eq_true q153
                                                have p44 : 0 ≤ ((ji38) : Int) := of_decide_eq_true (by first | (with_reducible assumption) | assumption)
                                                have q44 : ((ji38) : Int) < ((x6_4.length : Int) : Int) := of_decide_eq_true (by first | (with_reducible assumption) | assumption)
                                                obtain ⟨hx44_0, hf44_0⟩ := Kd.R_celln 0 HO_6.out ((ji38) : Int) p44 q44
                                                replace p44 := eq_true p44
                                                replace q44 := eq_true q44
                                                have HP45 := Kd.R_putg HO_6.out ((ji38) : Int) ji43
                                                go_wp2_with (first | ((with_reducible refine gate_store (t := 3) (p := 80) rfl ?_); refine store_event (t := 3) (p := 80) (v := ?vo_w46) (w1 := (wr.setCell ⟨go22, ((ji38) : Int).toNat, none⟩ (.int .i64 ji43))) ?hg ?ho ?hn ?hr ?_; (case ho => rfl); (case hg => rfl); (case hn => rfl); (case hr => first | (go_simp; done) | (go_simp; rfl)); intro w46 hw; have hg : wr.grownBy w46 (some go22) := (by rw [hw]; exact HP45.2); have hp_ : Kd.R (Kd.int .i64) 3 w46 w.heap.size (fun _ => True) (.slice (some ⟨go22, 0, none⟩) x6_4.length co11) y154 := (by rw [hw, Ny154.out]; exact HP45.1); clear HP45; have n0_ := Aside0.mk (hp_); have n1_ := Aside0.mk ((by rw [hw]; exact below_set (HB.out) GB22.out : Below w.heap.size w w46)); clear HO_6; clear HB; have HO_6 := n0_; have HB := n1_; clear n0_ n1_; clear hg hw hp_))
                                                (try simp only [← hl6_4])
                                                first | go_roundg k4 | ((simp only [← hji6, ← hji38, ← hji42, ← hji43]); go_roundg k4)
                                                case measure => have := HJ2.out; have := HK2.out; have := HK3.out; have := HK4.out; omega
                                                case rel => exact ⟨(y154), (rd x6_4 (ji38)), (ji38), (by first | rfl | (simp; done) | (simp only [← hji38] <;> (first | rfl | simp)) | (simp [*]; done)), (by first | rfl | (simp; done) | (simp only [← hji38] <;> (first | rfl | simp)) | (simp [*]; done)), (by first | exact H' | ((simp only [hji6, hji38, hji42, hji43]); exact H') | (have h_ := H'.out; simp only [← hji6, ← hji38, ← hji42, ← hji43] at h_ ⊢; exact ⟨h_⟩)), ⟨by have := HJ2.out; have := HK2.out; have := HK3.out; have := HK4.out; omega⟩, ⟨by (try simp only [hl6_2]); (try simp only [hl6_3]); (try simp only [hl6_4]); (with_reducible repeat (first | apply Kd.R_alloc | apply Kd.R_drewN | apply Kd.R_drew)); exact HO_6.out⟩, ⟨by repeat (first | (with_reducible first | exact HB.out | apply below_alloc | apply pw_below_drewN | apply below_drew1) | exact HB.out)⟩⟩
                                              · rw [if_neg c41] at H
                                                exact absurd H (by simp)
                                            · rw [if_neg c40] at H
                                              exact absurd H (by simp)
                                          · rw [if_neg c39] at H
                                            exact absurd H (by simp)
                                      · rw [if_neg c27] at H
                                        exact absurd H (by simp)
                                    · rw [if_neg c26] at H
                                      exact absurd H (by simp)
                                  · rw [if_neg c25] at H
                                    have c25b0 : decide (x52_4 < (l1.length : Int)) = false := decide_eq_false c25
                                    (try (have c25b0h := c25b0; simp only [hl6_2, hl6_3, hl6_4] at c25b0h))
                                    clear c25
                                    have H' := Aside0.mk H
                                    clear H
                                    go_wp2
                                    (try simp only [← hl6_3, ← hl6_4])
                                    first | go_roundg k4 | ((simp only [← hji6]); go_roundg k4)
                                    case measure => have := HJ2.out; have := HK2.out; have := HK3.out; have := HK4.out; omega
                                    case rel => exact ⟨(x6_4), (wrap64 (x38_3 + 1)), (by first | rfl | (simp; done) | (simp [*]; done)), (by first | exact H' | ((simp only [hji6]); exact H') | (have h_ := H'.out; simp only [← hji6] at h_ ⊢; exact ⟨h_⟩)), ⟨by have := HJ2.out; have := HK2.out; have := HK3.out; have := HK4.out; omega⟩, ⟨by (try simp only [hl6_2]); (try simp only [hl6_3]); (try simp only [hl6_4]); (with_reducible repeat (first | apply Kd.R_alloc | apply Kd.R_drewN | apply Kd.R_drew)); exact HO_6.out⟩, ⟨by repeat (first | (with_reducible first | exact HB.out | apply below_alloc | apply pw_below_drewN | apply below_drew1) | exact HB.out)⟩⟩
                            · rw [if_neg c21] at H
                              exact absurd H (by simp)
                          · rw [if_neg c20] at H
                            exact absurd H (by simp)
                        · rw [if_neg c19] at H
                          exact absurd H (by simp)
                      · rw [if_neg c18] at H
                        have c18b0 : decide (x38_3 < (l0.length : Int)) = false := decide_eq_false c18
                        (try (have c18b0h := c18b0; simp only [hl6_2, hl6_3] at c18b0h))
                        clear c18
                        by_cases c47 : 0 ≤ (l1.length : Int)
                        · rw [if_pos c47] at H
                          have c47b0 : decide (0 ≤ (l1.length : Int)) = true := decide_eq_true c47
                          have c47b1 : decide (0 ≤ l1.length) = true := decide_eq_true (by omega)
                          (try (have c47b0h := c47b0; simp only [hl6_2, hl6_3] at c47b0h))
                          (try (have c47b1h := c47b1; simp only [hl6_2, hl6_3] at c47b1h))
                          clear c47
                          by_cases c48 : (l1.length : Int) < (x6_3.length : Int)
                          · rw [if_pos c48] at H
                            have c48b0 : decide ((l1.length : Int) < (x6_3.length : Int)) = true := decide_eq_true c48
                            have c48b1 : decide (l1.length < x6_3.length) = true := decide_eq_true (Int.ofNat_lt.mp c48)
                            (try (have c48b0h := c48b0; simp only [hl6_2, hl6_3] at c48b0h))
                            (try (have c48b1h := c48b1; simp only [hl6_2, hl6_3] at c48b1h))
                            clear c48
                            simp only [Option.some.injEq, Prod.mk.injEq] at H
                            obtain ⟨rfl, rfl⟩ := H
                            have p144 : 0 ≤ ((l1.length : Int) : Int) := of_decide_eq_true (by first | (with_reducible assumption) | assumption)
                            have q144 : (l1.length : Int) < (x6_3.length : Int) := of_decide_eq_true (by first | (with_reducible assumption) | assumption)
                            obtain ⟨ad144, e144, hx144_0⟩ := Kd.at_int (Kd.R_reads' HO_6.out).2.2 (l1.length : Int) p144 q144
                            cases e144
                            (try simp only [Go.IntWalk.toNatUp] at hx144_0)
                            (try simp only [hl6_2, hl6_3] at p144)
                            (try simp only [hl6_2, hl6_3] at q144)
                            (try simp only [hl6_2, hl6_3] at hx144_0)
                            replace p144 := eq_true p144
                            replace q144 := eq_true q144
                            go_wp2
                            go_ret2
                            exact ⟨by first | rfl | (simp [errW_none, errW_some] <;> rfl) | (simp only [← hji6]; first | rfl | (simp [errW_none, errW_some] <;> rfl)) | (simp [*, errW_none, errW_some] <;> rfl), by repeat (first | (with_reducible first | exact HB.out | apply below_alloc | apply pw_below_drewN | apply below_drew1) | exact HB.out)⟩
                          · rw [if_neg c48] at H
                            exact absurd H (by simp)
                        · rw [if_neg c47] at H
                          exact absurd H (by simp)
          · rw [if_neg c8] at H
            exact absurd H (by simp)
        · rw [if_neg c7] at H
          exact absurd H (by simp)

end Go.Proofs.Ytkjhddjenkocjaa.GE
