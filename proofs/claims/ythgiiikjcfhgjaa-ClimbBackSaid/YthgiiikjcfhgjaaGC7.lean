-- Written by ext.py, a program of this session.
import Derived.Test.YthgiiikjcfhgjaaGC0
namespace Go.Proofs.Ythgiiikjcfhgjaa.GC
open Go.RowKit Go.Proofs.YthgiiikjcfhgjaaW.PrintWords Go.Proofs.YthgiiikjcfhgjaaW.PrintLast Go.Proofs.YthgiiikjcfhgjaaW.PrintMore
attribute [local go_sem] max2_int min2_int max_two min_two max_three min_three max_four min_four cellIs_set   -- for this text's walks alone
set_option linter.unusedVariables false
set_option linter.unusedSimpArgs false

/-! ### coppicerref_Half: function 60 -/
mutual
def coppicerref_Half.j0 : Nat → List Int → Bool → Option (Int)
  | 0, _, _ => none
  | k + 1, x0, x16 => if x16 = true then (some (-1)) else (coppicerref_Half.l0 k x0 1 (wrap64 ((x0.length : Int) - 2)))
def coppicerref_Half.l0 : Nat → List Int → Int → Int → Option (Int)
  | 0, _, _, _ => none
  | k + 1, x0, x3, x4 => if x4 > 0 then (if 0 ≤ x4 then (if x4 < (x0.length : Int) then (if (rd x0 x4) ≥ 100 then (if (wrap64 (x3 - 1)) = 0 then (some x4) else (coppicerref_Half.l0 k x0 (wrap64 (x3 - 1)) (wrap64 (x4 - 1)))) else (if (wrap64 (x3 + 1)) = 0 then (some x4) else (coppicerref_Half.l0 k x0 (wrap64 (x3 + 1)) (wrap64 (x4 - 1))))) else (none)) else (none)) else (some (-1))
end
def coppicerref_Half.f (k : Nat) (l0 : List Int) : Option (Int) := if (l0.length : Int) < 3 then (coppicerref_Half.j0 k l0 true) else (if 0 ≤ (wrap64 ((l0.length : Int) - 1)) then (if (wrap64 ((l0.length : Int) - 1)) < (l0.length : Int) then (coppicerref_Half.j0 k l0 (decide ((rd l0 (wrap64 ((l0.length : Int) - 1))) ≥ 100))) else (none)) else (none))
theorem coppicerref_Half.mono_l : ∀ k, (∀ y0 y1, LeO (coppicerref_Half.j0 k y0 y1) (coppicerref_Half.j0 (k + 1) y0 y1)) ∧ (∀ y0 y1 y2, LeO (coppicerref_Half.l0 k y0 y1 y2) (coppicerref_Half.l0 (k + 1) y0 y1 y2))
  | 0 => ⟨fun _ _ r h => by simp [coppicerref_Half.j0] at h, fun _ _ _ r h => by simp [coppicerref_Half.l0] at h⟩
  | k + 1 => by
    obtain ⟨ih0, ih1⟩ := coppicerref_Half.mono_l k
    refine ⟨?_, ?_⟩
    · intro y0 y1
      unfold coppicerref_Half.j0
      repeat' first
      | (with_reducible exact ih0 _ _)
      | (with_reducible exact ih1 _ _ _)
      | (with_reducible exact LeO.refl _)
      | (with_reducible exact LeO.none _)
      | (with_reducible refine LeO.ite ?_ ?_)
      | (with_reducible refine LeO.bind ?_ (fun _ => ?_))
      | exact ih0 _ _
      | exact ih1 _ _ _
      | exact LeO.none _
      | refine LeO.ite ?_ ?_
      | refine LeO.bind ?_ (fun _ => ?_)
    · intro y0 y1 y2
      unfold coppicerref_Half.l0
      repeat' first
      | (with_reducible exact ih0 _ _)
      | (with_reducible exact ih1 _ _ _)
      | (with_reducible exact LeO.refl _)
      | (with_reducible exact LeO.none _)
      | (with_reducible refine LeO.ite ?_ ?_)
      | (with_reducible refine LeO.bind ?_ (fun _ => ?_))
      | exact ih0 _ _
      | exact ih1 _ _ _
      | exact LeO.none _
      | refine LeO.ite ?_ ?_
      | refine LeO.bind ?_ (fun _ => ?_)
theorem coppicerref_Half.mono : ∀ a0 k, LeO (coppicerref_Half.f k a0) (coppicerref_Half.f (k + 1) a0) := by
  intro a0 k
  obtain ⟨ih0, ih1⟩ := coppicerref_Half.mono_l k
  unfold coppicerref_Half.f
  repeat' first
      | (with_reducible exact ih0 _ _)
      | (with_reducible exact ih1 _ _ _)
      | (with_reducible exact LeO.refl _)
      | (with_reducible exact LeO.none _)
      | (with_reducible refine LeO.ite ?_ ?_)
      | (with_reducible refine LeO.bind ?_ (fun _ => ?_))
      | exact ih0 _ _
      | exact ih1 _ _ _
      | exact LeO.none _
      | refine LeO.ite ?_ ?_
      | refine LeO.bind ?_ (fun _ => ?_)
set_option maxHeartbeats 8000000 in
set_option maxRecDepth 100000 in
theorem coppicerref_Half.calls (k : Nat) (A0 : Option Addr) (c0 : Nat) (l0 : List Int) (r : Int) (w : World) (hr0 : Kd.C (Kd.int .i64) w A0 l0.length l0) (hc0 : l0.length ≤ c0) (h : coppicerref_Half.f k l0 = some r) :
    Calls Try.prog 60 #[.slice A0 l0.length c0] w fun e w' => e = .returned (.int .i64 r) ∧ Drawn0 w w' := by
  have HR0 := Aside0.mk hr0
  have HC0 := Aside0.mk hc0
  clear hr0 hc0
  have H : (if (l0.length : Int) < 3 then (coppicerref_Half.j0 k l0 true) else (if 0 ≤ (wrap64 ((l0.length : Int) - 1)) then (if (wrap64 ((l0.length : Int) - 1)) < (l0.length : Int) then (coppicerref_Half.j0 k l0 (decide ((rd l0 (wrap64 ((l0.length : Int) - 1))) ≥ 100))) else (none)) else (none))) = some r := h
  clear h
  have HC2 := Aside0.mk H
  clear H
  go_enter Try.func60, Try.ntmps60
  go_upto_region 1 with (fail)
  go_cut [16] (fun v16 wc => ∃ (kq : Nat) (x16_1 : Bool), v16 = .bool x16_1 ∧ Aside0 (coppicerref_Half.j0 kq l0 x16_1 = some r) ∧ Aside0 (kq ≤ k) ∧ Drawn0 w wc)
  case first =>
    have H := HC2.out
    clear HC2
    by_cases c3 : (l0.length : Int) < 3
    · rw [if_pos c3] at H
      have c3b0 : decide ((l0.length : Int) < 3) = true := decide_eq_true c3
      have c3b1 : decide (l0.length < 3) = true := decide_eq_true (by omega)
      clear c3
      (first | rw [c3b0] | (simp only [i64_w, i32_w]; rw [c3b0]) | skip)
      have H' := Aside0.mk H
      clear H
      go_wp2
      go_meet
      case rel => exact ⟨_, (true), (by first | rfl | (simp; done) | (simp [*]; done)), H', ⟨by first | omega | exact Nat.le_refl _⟩, by repeat (first | exact Drawn0.refl _ | apply Drawn0.step)⟩
    · rw [if_neg c3] at H
      have c3b0 : decide ((l0.length : Int) < 3) = false := decide_eq_false c3
      have c3b1 : decide (l0.length < 3) = false := decide_eq_false (by omega)
      clear c3
      (first | rw [c3b0] | (simp only [i64_w, i32_w]; rw [c3b0]) | skip)
      obtain ⟨ji4, hji4⟩ : ∃ j_ : Int, (wrap64 ((l0.length : Int) - 1)) = j_ := ⟨_, rfl⟩
      replace H : (if 0 ≤ (ji4) then (if (ji4) < (l0.length : Int) then (coppicerref_Half.j0 k l0 (decide ((rd l0 (ji4)) ≥ 100))) else (none)) else (none)) = some r := by first | (rw [hji4] at H; exact H) | (simp only [hji4] at H ⊢; exact H)
      have hji4w : (IntKind.i64.wrap ((l0.length : Int) - 1)) = ji4 := (i64_w _).trans hji4
      by_cases c5 : 0 ≤ (ji4)
      · rw [if_pos c5] at H
        have c5b0 : decide (0 ≤ (ji4)) = true := decide_eq_true c5
        clear c5
        by_cases c6 : (ji4) < (l0.length : Int)
        · rw [if_pos c6] at H
          have c6b0 : decide ((ji4) < (l0.length : Int)) = true := decide_eq_true c6
          clear c6
          have H' := Aside0.mk H
          clear H
          have p121 : 0 ≤ ((ji4) : Int) := of_decide_eq_true (by first | (with_reducible assumption) | assumption)
          have q121 : (ji4) < (l0.length : Int) := of_decide_eq_true (by first | (with_reducible assumption) | assumption)
          obtain ⟨ad121, e121, hx121_0⟩ := Kd.at_int HR0.out (ji4) p121 q121
          cases e121
          replace p121 := eq_true p121
          replace q121 := eq_true q121
          go_wp2
          first | go_meet | ((simp only [← hji4]); go_meet)
          case rel => exact ⟨_, (decide ((rd l0 (ji4)) ≥ 100)), (by first | rfl | (simp; done) | (simp only [← hji4] <;> (first | rfl | simp)) | (simp [*]; done)), (by first | exact H' | ((simp only [hji4]); exact H') | (have h_ := H'.out; simp only [← hji4] at h_ ⊢; exact ⟨h_⟩)), ⟨by first | omega | exact Nat.le_refl _⟩, by repeat (first | exact Drawn0.refl _ | apply Drawn0.step)⟩
        · rw [if_neg c6] at H
          exact absurd H (by simp)
      · rw [if_neg c5] at H
        exact absurd H (by simp)
  case rest =>
    clear HC2
    try clear p1
    try clear q1
    try clear hx1
    try clear p2
    try clear c3
    try clear c3b0
    try clear c3b1
    try clear c5
    try clear c5b0
    try clear c6
    try clear c6b0
    try clear p6
    try clear hx121_0
    try clear p121
    try clear q121
    obtain ⟨kq, x16_1, rfl, HA, HJ1, ⟨mc1, rfl⟩⟩ := hcut
    cases kq with
    | zero => exact absurd HA.out (by simp [coppicerref_Half.j0])
    | succ kj1 =>
      have H := HA.out
      clear HA
      simp only [coppicerref_Half.j0] at H
      by_cases c7 : x16_1 = true
      · subst c7
        have H1 : (some (-1)) = some r := by rw [if_pos rfl] at H; exact H
        clear H
        have H := H1
        clear H1
        obtain rfl := Option.some.inj H
        go_wp2
        go_ret
        exact ⟨by first | rfl | (simp; done) | (simp [*]; done), by repeat (first | exact Drawn0.refl _ | apply Drawn0.step)⟩
      · replace c7 := Bool.eq_false_iff.mpr c7
        subst c7
        have H1 : (coppicerref_Half.l0 kj1 l0 1 (wrap64 ((l0.length : Int) - 2))) = some r := by rw [if_neg (show ¬ (false = true) by decide)] at H; exact H
        clear H
        have H := H1
        clear H1
        have H' := Aside0.mk H
        clear H
        go_wp2
        go_loopg [3, 4] kj1 (fun kq v3 v4 w' => ∃ (x3_2 : Int) (x4_2 : Int), v3 = .int .i64 x3_2 ∧ v4 = .int .i64 x4_2 ∧ Aside0 (coppicerref_Half.l0 kq l0 x3_2 x4_2 = some r) ∧ Aside0 (kq ≤ kj1) ∧ Drawn0 w w')
        case atStart => exact ⟨(1), (wrap64 ((l0.length : Int) - 2)), (by first | rfl | (simp; done) | (simp [*]; done)), (by first | rfl | (simp; done) | (simp [*]; done)), H', ⟨Nat.le_refl _⟩, by repeat (first | exact Drawn0.refl _ | apply Drawn0.step)⟩
        case round =>
          clear H'
          try clear c1
          try clear p1
          try clear q1
          try clear hx1
          try clear p2
          try clear c3
          try clear c3b0
          try clear c3b1
          try clear c5
          try clear c5b0
          try clear c6
          try clear c6b0
          try clear p6
          try clear c7
          try clear hx121_0
          try clear p1
          try clear p121
          try clear p2
          try clear p6
          try clear q1
          try clear q121
          obtain ⟨x3_2, x4_2, rfl, rfl, HA, HK2, ⟨m2, rfl⟩⟩ := hrel
          cases gk with
          | zero => exact absurd HA.out (by simp [coppicerref_Half.l0])
          | succ k2 =>
            have H := HA.out
            clear HA
            simp only [coppicerref_Half.l0] at H
            by_cases c8 : x4_2 > 0
            · rw [if_pos c8] at H
              have c8b0 : decide (0 < x4_2) = true := decide_eq_true c8
              clear c8
              by_cases c9 : 0 ≤ x4_2
              · rw [if_pos c9] at H
                have c9b0 : decide (0 ≤ x4_2) = true := decide_eq_true c9
                clear c9
                by_cases c10 : x4_2 < (l0.length : Int)
                · rw [if_pos c10] at H
                  have c10b0 : decide (x4_2 < (l0.length : Int)) = true := decide_eq_true c10
                  clear c10
                  by_cases c11 : (rd l0 x4_2) ≥ 100
                  · rw [if_pos c11] at H
                    have c11b0 : decide (100 ≤ (rd l0 x4_2)) = true := decide_eq_true c11
                    clear c11
                    by_cases c12 : (wrap64 (x3_2 - 1)) = 0
                    · rw [if_pos c12] at H
                      have c12b0 : ((wrap64 (x3_2 - 1)) == 0) = true := beq_iff_eq.mpr c12
                      have c12b1 : ((wrap64 (x3_2 - 1)) != 0) = false := bne_eq_false_iff_eq.mpr c12
                      clear c12
                      obtain rfl := Option.some.inj H
                      have p122 : 0 ≤ (x4_2 : Int) := of_decide_eq_true (by first | (with_reducible assumption) | assumption)
                      have q122 : x4_2 < (l0.length : Int) := of_decide_eq_true (by first | (with_reducible assumption) | assumption)
                      obtain ⟨ad122, e122, hx122_0⟩ := Kd.at_int HR0.out x4_2 p122 q122
                      cases e122
                      replace p122 := eq_true p122
                      replace q122 := eq_true q122
                      go_wp2
                      go_ret
                      exact ⟨by first | rfl | (simp; done) | (simp [*]; done), by repeat (first | exact Drawn0.refl _ | apply Drawn0.step)⟩
                    · rw [if_neg c12] at H
                      have c12b0 : ((wrap64 (x3_2 - 1)) == 0) = false := beq_eq_false_iff_ne.mpr c12
                      have c12b1 : ((wrap64 (x3_2 - 1)) != 0) = true := bne_iff_ne.mpr c12
                      have H' := Aside0.mk H
                      clear H
                      have p122 : 0 ≤ (x4_2 : Int) := of_decide_eq_true (by first | (with_reducible assumption) | assumption)
                      have q122 : x4_2 < (l0.length : Int) := of_decide_eq_true (by first | (with_reducible assumption) | assumption)
                      obtain ⟨ad122, e122, hx122_0⟩ := Kd.at_int HR0.out x4_2 p122 q122
                      cases e122
                      replace p122 := eq_true p122
                      replace q122 := eq_true q122
                      go_wp2
                      go_roundg k2
                      case measure => have := HJ1.out; have := HK2.out; omega
                      case rel => exact ⟨(wrap64 (x3_2 - 1)), (wrap64 (x4_2 - 1)), (by first | rfl | (simp; done) | (simp [*]; done)), (by first | rfl | (simp; done) | (simp [*]; done)), H', ⟨by have := HJ1.out; have := HK2.out; omega⟩, by repeat (first | exact Drawn0.refl _ | apply Drawn0.step)⟩
                  · rw [if_neg c11] at H
                    have c11b0 : decide (100 ≤ (rd l0 x4_2)) = false := decide_eq_false c11
                    clear c11
                    by_cases c13 : (wrap64 (x3_2 + 1)) = 0
                    · rw [if_pos c13] at H
                      have c13b0 : ((wrap64 (x3_2 + 1)) == 0) = true := beq_iff_eq.mpr c13
                      have c13b1 : ((wrap64 (x3_2 + 1)) != 0) = false := bne_eq_false_iff_eq.mpr c13
                      clear c13
                      obtain rfl := Option.some.inj H
                      have p122 : 0 ≤ (x4_2 : Int) := of_decide_eq_true (by first | (with_reducible assumption) | assumption)
                      have q122 : x4_2 < (l0.length : Int) := of_decide_eq_true (by first | (with_reducible assumption) | assumption)
                      obtain ⟨ad122, e122, hx122_0⟩ := Kd.at_int HR0.out x4_2 p122 q122
                      cases e122
                      replace p122 := eq_true p122
                      replace q122 := eq_true q122
                      go_wp2
                      go_ret
                      exact ⟨by first | rfl | (simp; done) | (simp [*]; done), by repeat (first | exact Drawn0.refl _ | apply Drawn0.step)⟩
                    · rw [if_neg c13] at H
                      have c13b0 : ((wrap64 (x3_2 + 1)) == 0) = false := beq_eq_false_iff_ne.mpr c13
                      have c13b1 : ((wrap64 (x3_2 + 1)) != 0) = true := bne_iff_ne.mpr c13
                      have H' := Aside0.mk H
                      clear H
                      have p122 : 0 ≤ (x4_2 : Int) := of_decide_eq_true (by first | (with_reducible assumption) | assumption)
                      have q122 : x4_2 < (l0.length : Int) := of_decide_eq_true (by first | (with_reducible assumption) | assumption)
                      obtain ⟨ad122, e122, hx122_0⟩ := Kd.at_int HR0.out x4_2 p122 q122
                      cases e122
                      replace p122 := eq_true p122
                      replace q122 := eq_true q122
                      go_wp2
                      go_roundg k2
                      case measure => have := HJ1.out; have := HK2.out; omega
                      case rel => exact ⟨(wrap64 (x3_2 + 1)), (wrap64 (x4_2 - 1)), (by first | rfl | (simp; done) | (simp [*]; done)), (by first | rfl | (simp; done) | (simp [*]; done)), H', ⟨by have := HJ1.out; have := HK2.out; omega⟩, by repeat (first | exact Drawn0.refl _ | apply Drawn0.step)⟩
                · rw [if_neg c10] at H
                  exact absurd H (by simp)
              · rw [if_neg c9] at H
                exact absurd H (by simp)
            · rw [if_neg c8] at H
              have c8b0 : decide (0 < x4_2) = false := decide_eq_false c8
              clear c8
              obtain rfl := Option.some.inj H
              go_wp2
              go_ret
              exact ⟨by first | rfl | (simp; done) | (simp [*]; done), by repeat (first | exact Drawn0.refl _ | apply Drawn0.step)⟩

end Go.Proofs.Ythgiiikjcfhgjaa.GC
