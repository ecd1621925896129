-- Written by ext.py, a program of this session.
import Derived.Test.YtancbigkdjbhnaaGA0
import Derived.Test.YtancbigkdjbhnaaGA1
import Derived.Test.YtancbigkdjbhnaaGA6
namespace Go.Proofs.Ytancbigkdjbhnaa.GA
open Go.RowKit Go.Proofs.YtancbigkdjbhnaaW.PrintWords Go.Proofs.YtancbigkdjbhnaaW.PrintLast Go.Proofs.YtancbigkdjbhnaaW.PrintMore
attribute [local go_sem] max2_int min2_int max_two min_two max_three min_three max_four min_four   -- for this text's walks alone
set_option linter.unusedVariables false
set_option linter.unusedSimpArgs false

/-! ### bytes_HasPrefix: function 43 -/
def bytes_HasPrefix.f (l0 : List Int) (l1 : List Int) : Option (Bool) := if (l0.length : Int) ≥ (l1.length : Int) then (if 0 ≤ (l1.length : Int) then (if (l1.length : Int) ≤ (l0.length : Int) then ((bytes_Equal.f (l0.take ((l1.length : Int) : Int).toNat) l1).bind fun t188 => (some t188)) else (none)) else (none)) else (some false)
set_option maxHeartbeats 8000000 in
set_option maxRecDepth 100000 in
theorem bytes_HasPrefix.calls (A0 : Option Addr) (c0 : Nat) (l0 : List Int) (A1 : Option Addr) (c1 : Nat) (l1 : List Int) (r : Bool) (w : World) (hr0 : Kd.C (Kd.int .u8) w A0 l0.length l0) (hc0 : l0.length ≤ c0) (hr1 : Kd.C (Kd.int .u8) w A1 l1.length l1) (hc1 : l1.length ≤ c1) (h : bytes_HasPrefix.f l0 l1 = some r) :
    Calls Try.prog 43 #[.slice A0 l0.length c0, .slice A1 l1.length c1] w fun e w' => e = .returned (.bool r) ∧ Drawn0 w w' := by
  have HR0 := Aside0.mk hr0
  have HC0 := Aside0.mk hc0
  clear hr0 hc0
  have HR1 := Aside0.mk hr1
  have HC1 := Aside0.mk hc1
  clear hr1 hc1
  have H : (if (l0.length : Int) ≥ (l1.length : Int) then (if 0 ≤ (l1.length : Int) then (if (l1.length : Int) ≤ (l0.length : Int) then ((bytes_Equal.f (l0.take ((l1.length : Int) : Int).toNat) l1).bind fun t188 => (some t188)) else (none)) else (none)) else (some false)) = some r := h
  clear h
  by_cases c3 : (l0.length : Int) ≥ (l1.length : Int)
  · rw [if_pos c3] at H
    have c3b0 : decide ((l1.length : Int) ≤ (l0.length : Int)) = true := decide_eq_true c3
    have c3b1 : decide (l1.length ≤ l0.length) = true := decide_eq_true (Int.ofNat_le.mp c3)
    clear c3
    by_cases c4 : 0 ≤ (l1.length : Int)
    · rw [if_pos c4] at H
      have c4b0 := eq_true c4
      have c4b1 : decide (0 ≤ (l1.length : Int)) = true := decide_eq_true c4
      clear c4
      by_cases c5 : (l1.length : Int) ≤ (l0.length : Int)
      · rw [if_pos c5] at H
        have c5b0 := eq_true c5
        have c5b1 : decide ((l1.length : Int) ≤ (l0.length : Int)) = true := decide_eq_true c5
        clear c5
        replace H := Option.bind_eq_some_iff.mp H
        obtain ⟨t188, A60, H⟩ := H
        replace H : (some t188) = some r := H
        have A6 := Aside0.mk A60
        clear A60
        obtain rfl := Option.some.inj H
        obtain ⟨i07, hi07, _, hsz7, _⟩ := info_parts info5
        obtain ⟨hcut7, hA7, hC7⟩ := print_take_of (P := Try.prog) (Value.int .u8) 0 22 5 .i64 Try.underlying22 hi07 hsz7 A0 c0 l0 (l1.length : Int) (of_decide_eq_true (by first | (with_reducible assumption) | assumption)) (of_decide_eq_true (by first | (with_reducible assumption) | assumption)) HC0.out
        have HR187 := Aside0.mk (Kd.C_of_reads (h1 := fun _ => rfl) (hA7 _ (Kd.reads_of_C HR0.out)))
        have HC187 := Aside0.mk hC7
        clear hA7 hC7 hi07 hsz7
        go_enter Try.func43, Try.ntmps43
        go_wp2_with (first | (go_at_call 47; refine calls_of_args (args' := #[.slice A0 (l0.take ((l1.length : Int) : Int).toNat).length c0, .slice A1 l1.length c1]) (by first | rfl | rfl | (simp only [List.length_drop, List.length_take]; done) | (simp [*]; done) | (simp [*]; omega)) ?_; (with_reducible refine (bytes_Equal.calls _ _ (l0.take ((l1.length : Int) : Int).toNat) _ _ l1 t188 _ ?side1 ?side2 ?side3 ?side4 A6.out).mono ?_); (case side1 => repeat (first | exact HR187.out | (with_reducible refine Kd.C_alloc ?_ _) | (with_reducible refine Kd.C_drewN ?_ _) | (with_reducible refine Kd.C_drew ?_))); (case side2 => exact HC187.out); (case side3 => repeat (first | exact HR1.out | (with_reducible refine Kd.C_alloc ?_ _) | (with_reducible refine Kd.C_drewN ?_ _) | (with_reducible refine Kd.C_drew ?_))); (case side4 => exact HC1.out); rintro e w' ⟨rfl, ⟨nd, rfl⟩⟩))
        go_ret
        exact ⟨by first | rfl | (simp; done) | (simp [*]; done), by repeat (first | exact Drawn0.refl _ | apply Drawn0.step)⟩
      · rw [if_neg c5] at H
        exact absurd H (by simp)
    · rw [if_neg c4] at H
      exact absurd H (by simp)
  · rw [if_neg c3] at H
    have c3b0 : decide ((l1.length : Int) ≤ (l0.length : Int)) = false := decide_eq_false c3
    have c3b1 : decide (l1.length ≤ l0.length) = false := decide_eq_false (fun h => c3 (Int.ofNat_le.mpr h))
    clear c3
    obtain rfl := Option.some.inj H
    go_enter Try.func43, Try.ntmps43
    go_wp2
    go_ret
    exact ⟨by first | rfl | (simp; done) | (simp [*]; done), by repeat (first | exact Drawn0.refl _ | apply Drawn0.step)⟩

/-! ### begin_Cover: function 23 -/
mutual
def begin_Cover.j0 : Nat → List Int → List Int → Bool → Option (Bool × Int)
  | 0, _, _, _ => none
  | k + 1, x0, x1, x15 => if x15 = true then (some (false, 1)) else (if (x1.length : Int) = 0 then (some (false, 2)) else (begin_Cover.l0 k x0 x1 0 (x0.length : Int) 0))
def begin_Cover.l0 : Nat → List Int → List Int → Int → Int → Int → Option (Bool × Int)
  | 0, _, _, _, _, _ => none
  | k + 1, x0, x1, x6, x20, x21 => if x21 < x20 then (if 0 ≤ x21 then (if x21 ≤ (x0.length : Int) then ((bytes_HasPrefix.f (x0.drop (x21 : Int).toNat) x1).bind fun t190 => (if t190 = true then (if x21 ≤ x6 then (begin_Cover.l0 k x0 x1 (wrap64 (x21 + (x1.length : Int))) x20 (wrap64 (x21 + 1))) else (begin_Cover.l0 k x0 x1 x6 x20 (wrap64 (x21 + 1)))) else (begin_Cover.l0 k x0 x1 x6 x20 (wrap64 (x21 + 1))))) else (none)) else (none)) else (some (decide (x6 ≥ (x0.length : Int)), 0))
end
def begin_Cover.f (k : Nat) (l0 : List Int) (l1 : List Int) : Option (Bool × Int) := if (l0.length : Int) > 60 then (begin_Cover.j0 k l0 l1 true) else (begin_Cover.j0 k l0 l1 (decide ((l1.length : Int) > 60)))
theorem begin_Cover.mono_l : ∀ k, (∀ y0 y1 y2, LeO (begin_Cover.j0 k y0 y1 y2) (begin_Cover.j0 (k + 1) y0 y1 y2)) ∧ (∀ y0 y1 y2 y3 y4, LeO (begin_Cover.l0 k y0 y1 y2 y3 y4) (begin_Cover.l0 (k + 1) y0 y1 y2 y3 y4))
  | 0 => ⟨fun _ _ _ r h => by simp [begin_Cover.j0] at h, fun _ _ _ _ _ r h => by simp [begin_Cover.l0] at h⟩
  | k + 1 => by
    obtain ⟨ih0, ih1⟩ := begin_Cover.mono_l k
    refine ⟨?_, ?_⟩
    · intro y0 y1 y2
      unfold begin_Cover.j0
      repeat' first
      | (with_reducible exact ih0 _ _ _)
      | (with_reducible exact ih1 _ _ _ _ _)
      | (with_reducible exact LeO.refl _)
      | (with_reducible exact LeO.none _)
      | (with_reducible refine LeO.ite ?_ ?_)
      | (with_reducible refine LeO.bind ?_ (fun _ => ?_))
      | exact ih0 _ _ _
      | exact ih1 _ _ _ _ _
      | exact LeO.none _
      | refine LeO.ite ?_ ?_
      | refine LeO.bind ?_ (fun _ => ?_)
    · intro y0 y1 y2 y3 y4
      unfold begin_Cover.l0
      repeat' first
      | (with_reducible exact ih0 _ _ _)
      | (with_reducible exact ih1 _ _ _ _ _)
      | (with_reducible exact LeO.refl _)
      | (with_reducible exact LeO.none _)
      | (with_reducible refine LeO.ite ?_ ?_)
      | (with_reducible refine LeO.bind ?_ (fun _ => ?_))
      | exact ih0 _ _ _
      | exact ih1 _ _ _ _ _
      | exact LeO.none _
      | refine LeO.ite ?_ ?_
      | refine LeO.bind ?_ (fun _ => ?_)
theorem begin_Cover.mono : ∀ a0 a1 k, LeO (begin_Cover.f k a0 a1) (begin_Cover.f (k + 1) a0 a1) := by
  intro a0 a1 k
  obtain ⟨ih0, ih1⟩ := begin_Cover.mono_l k
  unfold begin_Cover.f
  repeat' first
      | (with_reducible exact ih0 _ _ _)
      | (with_reducible exact ih1 _ _ _ _ _)
      | (with_reducible exact LeO.refl _)
      | (with_reducible exact LeO.none _)
      | (with_reducible refine LeO.ite ?_ ?_)
      | (with_reducible refine LeO.bind ?_ (fun _ => ?_))
      | exact ih0 _ _ _
      | exact ih1 _ _ _ _ _
      | exact LeO.none _
      | refine LeO.ite ?_ ?_
      | refine LeO.bind ?_ (fun _ => ?_)
set_option maxHeartbeats 8000000 in
set_option maxRecDepth 100000 in
theorem begin_Cover.calls (k : Nat) (A0 : Option Addr) (c0 : Nat) (l0 : List Int) (A1 : Option Addr) (c1 : Nat) (l1 : List Int) (r1 : Bool) (r2 : Int) (w : World) (hr0 : Kd.C (Kd.int .u8) w A0 l0.length l0) (hc0 : l0.length ≤ c0) (hr1 : Kd.C (Kd.int .u8) w A1 l1.length l1) (hc1 : l1.length ≤ c1) (h : begin_Cover.f k l0 l1 = some (r1, r2)) :
    Calls Try.prog 23 #[.slice A0 l0.length c0, .slice A1 l1.length c1] w fun e w' => e = .returned (.tuple #[.bool r1, .int .i64 r2]) ∧ Drawn0 w w' := by
  have HR0 := Aside0.mk hr0
  have HC0 := Aside0.mk hc0
  clear hr0 hc0
  have HR1 := Aside0.mk hr1
  have HC1 := Aside0.mk hc1
  clear hr1 hc1
  have H : (if (l0.length : Int) > 60 then (begin_Cover.j0 k l0 l1 true) else (begin_Cover.j0 k l0 l1 (decide ((l1.length : Int) > 60)))) = some (r1, r2) := h
  clear h
  have HC3 := Aside0.mk H
  clear H
  go_enter Try.func23, Try.ntmps23
  go_upto_region 1 with (fail)
  go_cut [15] (fun v15 wc => ∃ (kq : Nat) (x15_2 : Bool), v15 = .bool x15_2 ∧ Aside0 (begin_Cover.j0 kq l0 l1 x15_2 = some (r1, r2)) ∧ Aside0 (kq ≤ k) ∧ Drawn0 w wc)
  case first =>
    have H := HC3.out
    clear HC3
    by_cases c4 : (l0.length : Int) > 60
    · rw [if_pos c4] at H
      have c4b0 : decide (60 < (l0.length : Int)) = true := decide_eq_true c4
      have c4b1 : decide (60 < l0.length) = true := decide_eq_true (by omega)
      clear c4
      (first | rw [c4b0] | (simp only [i64_w, i32_w]; rw [c4b0]) | skip)
      have H' := Aside0.mk H
      clear H
      go_wp2
      go_meet
      case rel => exact ⟨_, (true), (by first | rfl | (simp; done) | (simp [*]; done)), H', ⟨by first | omega | exact Nat.le_refl _⟩, by repeat (first | exact Drawn0.refl _ | apply Drawn0.step)⟩
    · rw [if_neg c4] at H
      have c4b0 : decide (60 < (l0.length : Int)) = false := decide_eq_false c4
      have c4b1 : decide (60 < l0.length) = false := decide_eq_false (by omega)
      clear c4
      (first | rw [c4b0] | (simp only [i64_w, i32_w]; rw [c4b0]) | skip)
      have H' := Aside0.mk H
      clear H
      go_wp2
      go_meet
      case rel => exact ⟨_, (decide ((l1.length : Int) > 60)), (by first | rfl | (simp; done) | (simp [*]; done)), H', ⟨by first | omega | exact Nat.le_refl _⟩, by repeat (first | exact Drawn0.refl _ | apply Drawn0.step)⟩
  case rest =>
    clear HC3
    try clear c1
    try clear c2
    try clear p2
    try clear c4
    try clear c4b0
    try clear c4b1
    obtain ⟨kq, x15_2, rfl, HA, HJ2, ⟨mc2, rfl⟩⟩ := hcut
    cases kq with
    | zero => exact absurd HA.out (by simp [begin_Cover.j0])
    | succ kj2 =>
      have H := HA.out
      clear HA
      simp only [begin_Cover.j0] at H
      by_cases c5 : x15_2 = true
      · subst c5
        have H1 : (some (false, 1)) = some (r1, r2) := by rw [if_pos rfl] at H; exact H
        clear H
        have H := H1
        clear H1
        simp only [Option.some.injEq, Prod.mk.injEq] at H
        obtain ⟨rfl, rfl⟩ := H
        go_wp2
        go_ret2
        exact ⟨by first | rfl | (simp; done) | (simp [*]; done), by repeat (first | exact Drawn0.refl _ | apply Drawn0.step)⟩
      · replace c5 := Bool.eq_false_iff.mpr c5
        subst c5
        have H1 : (if (l1.length : Int) = 0 then (some (false, 2)) else (begin_Cover.l0 kj2 l0 l1 0 (l0.length : Int) 0)) = some (r1, r2) := by rw [if_neg (show ¬ (false = true) by decide)] at H; exact H
        clear H
        have H := H1
        clear H1
        by_cases c6 : (l1.length : Int) = 0
        · rw [if_pos c6] at H
          have c6b0 : ((l1.length : Int) == 0) = true := beq_iff_eq.mpr c6
          have c6b1 : ((l1.length : Int) != 0) = false := bne_eq_false_iff_eq.mpr c6
          clear c6
          simp only [Option.some.injEq, Prod.mk.injEq] at H
          obtain ⟨rfl, rfl⟩ := H
          go_wp2
          go_ret2
          exact ⟨by first | rfl | (simp; done) | (simp [*]; done), by repeat (first | exact Drawn0.refl _ | apply Drawn0.step)⟩
        · rw [if_neg c6] at H
          have c6b0 : ((l1.length : Int) == 0) = false := beq_eq_false_iff_ne.mpr c6
          have c6b1 : ((l1.length : Int) != 0) = true := bne_iff_ne.mpr c6
          have c6b2 : ¬ (l1 = []) := fun h_ => c6 (by rw [h_]; rfl)
          have H' := Aside0.mk H
          clear H
          go_wp2
          go_loopg [6, 21] kj2 (fun kq v6 v21 w' => ∃ (x6_2 : Int) (x21_2 : Int), v6 = .int .i64 x6_2 ∧ v21 = .int .i64 x21_2 ∧ Aside0 (begin_Cover.l0 kq l0 l1 x6_2 (l0.length : Int) x21_2 = some (r1, r2)) ∧ Aside0 (kq ≤ kj2) ∧ Drawn0 w w')
          case atStart => exact ⟨(0), (0), (by first | rfl | (simp; done) | (simp [*]; done)), (by first | rfl | (simp; done) | (simp [*]; done)), H', ⟨Nat.le_refl _⟩, by repeat (first | exact Drawn0.refl _ | apply Drawn0.step)⟩
          case round =>
            clear H'
            try clear c1
            try clear c2
            try clear p2
            try clear c4
            try clear c4b0
            try clear c4b1
            try clear c5
            try clear c6
            try clear c6b0
            try clear c6b1
            try clear c6b2
            try clear p2
            obtain ⟨x6_2, x21_2, rfl, rfl, HA, HK2, ⟨m2, rfl⟩⟩ := hrel
            cases gk with
            | zero => exact absurd HA.out (by simp [begin_Cover.l0])
            | succ k2 =>
              have H := HA.out
              clear HA
              simp only [begin_Cover.l0] at H
              by_cases c7 : x21_2 < (l0.length : Int)
              · rw [if_pos c7] at H
                have c7b0 : decide (x21_2 < (l0.length : Int)) = true := decide_eq_true c7
                clear c7
                by_cases c8 : 0 ≤ x21_2
                · rw [if_pos c8] at H
                  have c8b0 := eq_true c8
                  have c8b1 : decide (0 ≤ x21_2) = true := decide_eq_true c8
                  clear c8
                  by_cases c9 : x21_2 ≤ (l0.length : Int)
                  · rw [if_pos c9] at H
                    have c9b0 := eq_true c9
                    have c9b1 : decide (x21_2 ≤ (l0.length : Int)) = true := decide_eq_true c9
                    clear c9
                    replace H := Option.bind_eq_some_iff.mp H
                    obtain ⟨t190, A100, H⟩ := H
                    replace H : (if t190 = true then (if x21_2 ≤ x6_2 then (begin_Cover.l0 k2 l0 l1 (wrap64 (x21_2 + (l1.length : Int))) (l0.length : Int) (wrap64 (x21_2 + 1))) else (begin_Cover.l0 k2 l0 l1 x6_2 (l0.length : Int) (wrap64 (x21_2 + 1)))) else (begin_Cover.l0 k2 l0 l1 x6_2 (l0.length : Int) (wrap64 (x21_2 + 1)))) = some (r1, r2) := H
                    have A10 := Aside0.mk A100
                    clear A100
                    by_cases c11 : t190 = true
                    · subst c11
                      have H1 : (if x21_2 ≤ x6_2 then (begin_Cover.l0 k2 l0 l1 (wrap64 (x21_2 + (l1.length : Int))) (l0.length : Int) (wrap64 (x21_2 + 1))) else (begin_Cover.l0 k2 l0 l1 x6_2 (l0.length : Int) (wrap64 (x21_2 + 1)))) = some (r1, r2) := by rw [if_pos rfl] at H; exact H
                      clear H
                      have H := H1
                      clear H1
                      by_cases c12 : x21_2 ≤ x6_2
                      · rw [if_pos c12] at H
                        have c12b0 : decide (x21_2 ≤ x6_2) = true := decide_eq_true c12
                        clear c12
                        have H' := Aside0.mk H
                        clear H
                        obtain ⟨i013, hi013, _, hsz13, _⟩ := info_parts info5
                        obtain ⟨A13, hcut13, hA13, hC13⟩ := print_drop_of (P := Try.prog) (Value.int .u8) 0 22 5 .i64 Try.underlying22 hi013 hsz13 A0 c0 l0 x21_2 (of_decide_eq_true (by first | (with_reducible assumption) | assumption)) (of_decide_eq_true (by first | (with_reducible assumption) | assumption)) HC0.out
                        have HR189 := Aside0.mk (Kd.C_of_reads (h1 := fun _ => rfl) (hA13 _ (Kd.reads_of_C HR0.out)))
                        have HC189 := Aside0.mk hC13
                        clear hA13 hC13 hi013 hsz13
                        go_wp2_with (first | ((with_reducible refine gate_callee (f := 43) rfl ?_); refine goesL_ (some 28) rfl rfl Try.func43 (by kernel_rfl) rfl #[.slice A13 (l0.drop (x21_2 : Int).toNat).length (c0 - x21_2.toNat), .slice A1 l1.length c1] rfl (by (try simp only [List.map_toArray, List.map_cons, List.map_nil]); first | done | (rw [show (l0.drop (x21_2 : Int).toNat).length = (l0.length - x21_2.toNat) from List.length_drop] <;> rfl) | rfl | (simp only [List.length_drop, List.length_take]; rfl)) ?_; (with_reducible refine (bytes_HasPrefix.calls _ _ (l0.drop (x21_2 : Int).toNat) _ _ l1 true _ ?side1 ?side2 ?side3 ?side4 A10.out).mono ?_); (case side1 => repeat (first | exact HR189.out | (with_reducible refine Kd.C_alloc ?_ _) | (with_reducible refine Kd.C_drewN ?_ _) | (with_reducible refine Kd.C_drew ?_))); (case side2 => exact HC189.out); (case side3 => repeat (first | exact HR1.out | (with_reducible refine Kd.C_alloc ?_ _) | (with_reducible refine Kd.C_drewN ?_ _) | (with_reducible refine Kd.C_drew ?_))); (case side4 => exact HC1.out); rintro e w' ⟨rfl, ⟨nd, rfl⟩⟩; refine ⟨_, rfl, ?_⟩))
                        go_roundg k2
                        case measure => have := HJ2.out; have := HK2.out; omega
                        case rel => exact ⟨(wrap64 (x21_2 + (l1.length : Int))), (wrap64 (x21_2 + 1)), (by first | rfl | (simp; done) | (simp [*]; done)), (by first | rfl | (simp; done) | (simp [*]; done)), H', ⟨by have := HJ2.out; have := HK2.out; omega⟩, by repeat (first | exact Drawn0.refl _ | apply Drawn0.step)⟩
                      · rw [if_neg c12] at H
                        have c12b0 : decide (x21_2 ≤ x6_2) = false := decide_eq_false c12
                        clear c12
                        have H' := Aside0.mk H
                        clear H
                        obtain ⟨i014, hi014, _, hsz14, _⟩ := info_parts info5
                        obtain ⟨A14, hcut14, hA14, hC14⟩ := print_drop_of (P := Try.prog) (Value.int .u8) 0 22 5 .i64 Try.underlying22 hi014 hsz14 A0 c0 l0 x21_2 (of_decide_eq_true (by first | (with_reducible assumption) | assumption)) (of_decide_eq_true (by first | (with_reducible assumption) | assumption)) HC0.out
                        have HR189 := Aside0.mk (Kd.C_of_reads (h1 := fun _ => rfl) (hA14 _ (Kd.reads_of_C HR0.out)))
                        have HC189 := Aside0.mk hC14
                        clear hA14 hC14 hi014 hsz14
                        go_wp2_with (first | ((with_reducible refine gate_callee (f := 43) rfl ?_); refine goesL_ (some 28) rfl rfl Try.func43 (by kernel_rfl) rfl #[.slice A14 (l0.drop (x21_2 : Int).toNat).length (c0 - x21_2.toNat), .slice A1 l1.length c1] rfl (by (try simp only [List.map_toArray, List.map_cons, List.map_nil]); first | done | (rw [show (l0.drop (x21_2 : Int).toNat).length = (l0.length - x21_2.toNat) from List.length_drop] <;> rfl) | rfl | (simp only [List.length_drop, List.length_take]; rfl)) ?_; (with_reducible refine (bytes_HasPrefix.calls _ _ (l0.drop (x21_2 : Int).toNat) _ _ l1 true _ ?side1 ?side2 ?side3 ?side4 A10.out).mono ?_); (case side1 => repeat (first | exact HR189.out | (with_reducible refine Kd.C_alloc ?_ _) | (with_reducible refine Kd.C_drewN ?_ _) | (with_reducible refine Kd.C_drew ?_))); (case side2 => exact HC189.out); (case side3 => repeat (first | exact HR1.out | (with_reducible refine Kd.C_alloc ?_ _) | (with_reducible refine Kd.C_drewN ?_ _) | (with_reducible refine Kd.C_drew ?_))); (case side4 => exact HC1.out); rintro e w' ⟨rfl, ⟨nd, rfl⟩⟩; refine ⟨_, rfl, ?_⟩))
                        go_roundg k2
                        case measure => have := HJ2.out; have := HK2.out; omega
                        case rel => exact ⟨(x6_2), (wrap64 (x21_2 + 1)), (by first | rfl | (simp; done) | (simp [*]; done)), (by first | rfl | (simp; done) | (simp [*]; done)), H', ⟨by have := HJ2.out; have := HK2.out; omega⟩, by repeat (first | exact Drawn0.refl _ | apply Drawn0.step)⟩
                    · replace c11 := Bool.eq_false_iff.mpr c11
                      subst c11
                      have H1 : (begin_Cover.l0 k2 l0 l1 x6_2 (l0.length : Int) (wrap64 (x21_2 + 1))) = some (r1, r2) := by rw [if_neg (show ¬ (false = true) by decide)] at H; exact H
                      clear H
                      have H := H1
                      clear H1
                      have H' := Aside0.mk H
                      clear H
                      obtain ⟨i015, hi015, _, hsz15, _⟩ := info_parts info5
                      obtain ⟨A15, hcut15, hA15, hC15⟩ := print_drop_of (P := Try.prog) (Value.int .u8) 0 22 5 .i64 Try.underlying22 hi015 hsz15 A0 c0 l0 x21_2 (of_decide_eq_true (by first | (with_reducible assumption) | assumption)) (of_decide_eq_true (by first | (with_reducible assumption) | assumption)) HC0.out
                      have HR189 := Aside0.mk (Kd.C_of_reads (h1 := fun _ => rfl) (hA15 _ (Kd.reads_of_C HR0.out)))
                      have HC189 := Aside0.mk hC15
                      clear hA15 hC15 hi015 hsz15
                      go_wp2_with (first | ((with_reducible refine gate_callee (f := 43) rfl ?_); refine goesL_ (some 28) rfl rfl Try.func43 (by kernel_rfl) rfl #[.slice A15 (l0.drop (x21_2 : Int).toNat).length (c0 - x21_2.toNat), .slice A1 l1.length c1] rfl (by (try simp only [List.map_toArray, List.map_cons, List.map_nil]); first | done | (rw [show (l0.drop (x21_2 : Int).toNat).length = (l0.length - x21_2.toNat) from List.length_drop] <;> rfl) | rfl | (simp only [List.length_drop, List.length_take]; rfl)) ?_; (with_reducible refine (bytes_HasPrefix.calls _ _ (l0.drop (x21_2 : Int).toNat) _ _ l1 false _ ?side1 ?side2 ?side3 ?side4 A10.out).mono ?_); (case side1 => repeat (first | exact HR189.out | (with_reducible refine Kd.C_alloc ?_ _) | (with_reducible refine Kd.C_drewN ?_ _) | (with_reducible refine Kd.C_drew ?_))); (case side2 => exact HC189.out); (case side3 => repeat (first | exact HR1.out | (with_reducible refine Kd.C_alloc ?_ _) | (with_reducible refine Kd.C_drewN ?_ _) | (with_reducible refine Kd.C_drew ?_))); (case side4 => exact HC1.out); rintro e w' ⟨rfl, ⟨nd, rfl⟩⟩; refine ⟨_, rfl, ?_⟩))
                      go_roundg k2
                      case measure => have := HJ2.out; have := HK2.out; omega
                      case rel => exact ⟨(x6_2), (wrap64 (x21_2 + 1)), (by first | rfl | (simp; done) | (simp [*]; done)), (by first | rfl | (simp; done) | (simp [*]; done)), H', ⟨by have := HJ2.out; have := HK2.out; omega⟩, by repeat (first | exact Drawn0.refl _ | apply Drawn0.step)⟩
                  · rw [if_neg c9] at H
                    exact absurd H (by simp)
                · rw [if_neg c8] at H
                  exact absurd H (by simp)
              · rw [if_neg c7] at H
                have c7b0 : decide (x21_2 < (l0.length : Int)) = false := decide_eq_false c7
                clear c7
                simp only [Option.some.injEq, Prod.mk.injEq] at H
                obtain ⟨rfl, rfl⟩ := H
                go_wp2
                go_ret2
                exact ⟨by first | rfl | (simp; done) | (simp [*]; done), by repeat (first | exact Drawn0.refl _ | apply Drawn0.step)⟩

/-! ### coppicerref_At: function 24 -/
def coppicerref_At.f (k : Nat) (l0 : List Int) (l1 : List Int) (a2 : Int) : Option (Bool) := if a2 ≥ 0 then (if a2 ≤ (wrap64 ((l0.length : Int) - (l1.length : Int))) then (if 0 ≤ a2 then (if a2 ≤ (wrap64 (a2 + (l1.length : Int))) then (if (wrap64 (a2 + (l1.length : Int))) ≤ (l0.length : Int) then ((coppicerref_Bytes.f k ((l0.take ((wrap64 (a2 + (l1.length : Int))) : Int).toNat).drop (a2 : Int).toNat) l1).bind fun t192 => (some t192)) else (none)) else (none)) else (none)) else (some false)) else (some false)
theorem coppicerref_At.mono : ∀ a0 a1 a2 k, LeO (coppicerref_At.f k a0 a1 a2) (coppicerref_At.f (k + 1) a0 a1 a2) := by
  intro a0 a1 a2 k
  unfold coppicerref_At.f
  repeat' first
      | (with_reducible exact coppicerref_Bytes.mono _ _ _)
      | (with_reducible exact LeO.refl _)
      | (with_reducible exact LeO.none _)
      | (with_reducible refine LeO.ite ?_ ?_)
      | (with_reducible refine LeO.bind ?_ (fun _ => ?_))
      | exact coppicerref_Bytes.mono _ _ _
      | exact LeO.none _
      | refine LeO.ite ?_ ?_
      | refine LeO.bind ?_ (fun _ => ?_)
set_option maxHeartbeats 8000000 in
set_option maxRecDepth 100000 in
theorem coppicerref_At.calls (k : Nat) (A0 : Option Addr) (c0 : Nat) (l0 : List Int) (A1 : Option Addr) (c1 : Nat) (l1 : List Int) (a2 : Int) (r : Bool) (w : World) (hr0 : Kd.C (Kd.int .u8) w A0 l0.length l0) (hc0 : l0.length ≤ c0) (hr1 : Kd.C (Kd.int .u8) w A1 l1.length l1) (hc1 : l1.length ≤ c1) (h : coppicerref_At.f k l0 l1 a2 = some r) :
    Calls Try.prog 24 #[.slice A0 l0.length c0, .slice A1 l1.length c1, .int .i64 a2] w fun e w' => e = .returned (.bool r) ∧ Drawn0 w w' := by
  have HR0 := Aside0.mk hr0
  have HC0 := Aside0.mk hc0
  clear hr0 hc0
  have HR1 := Aside0.mk hr1
  have HC1 := Aside0.mk hc1
  clear hr1 hc1
  have H : (if a2 ≥ 0 then (if a2 ≤ (wrap64 ((l0.length : Int) - (l1.length : Int))) then (if 0 ≤ a2 then (if a2 ≤ (wrap64 (a2 + (l1.length : Int))) then (if (wrap64 (a2 + (l1.length : Int))) ≤ (l0.length : Int) then ((coppicerref_Bytes.f k ((l0.take ((wrap64 (a2 + (l1.length : Int))) : Int).toNat).drop (a2 : Int).toNat) l1).bind fun t192 => (some t192)) else (none)) else (none)) else (none)) else (some false)) else (some false)) = some r := h
  clear h
  by_cases c4 : a2 ≥ 0
  · rw [if_pos c4] at H
    have c4b0 : decide (0 ≤ a2) = true := decide_eq_true c4
    clear c4
    by_cases c5 : a2 ≤ (wrap64 ((l0.length : Int) - (l1.length : Int)))
    · rw [if_pos c5] at H
      have c5b0 : decide (a2 ≤ (wrap64 ((l0.length : Int) - (l1.length : Int)))) = true := decide_eq_true c5
      clear c5
      by_cases c6 : 0 ≤ a2
      · rw [if_pos c6] at H
        have c6b0 := eq_true c6
        have c6b1 : decide (0 ≤ a2) = true := decide_eq_true c6
        clear c6
        by_cases c7 : a2 ≤ (wrap64 (a2 + (l1.length : Int)))
        · rw [if_pos c7] at H
          have c7b0 := eq_true c7
          have c7b1 : decide (a2 ≤ (wrap64 (a2 + (l1.length : Int)))) = true := decide_eq_true c7
          by_cases c8 : (wrap64 (a2 + (l1.length : Int))) ≤ (l0.length : Int)
          · rw [if_pos c8] at H
            have c8b0 := eq_true c8
            have c8b1 : decide ((wrap64 (a2 + (l1.length : Int))) ≤ (l0.length : Int)) = true := decide_eq_true c8
            replace H := Option.bind_eq_some_iff.mp H
            obtain ⟨t192, A90, H⟩ := H
            replace H : (some t192) = some r := H
            have A9 := Aside0.mk A90
            clear A90
            obtain rfl := Option.some.inj H
            obtain ⟨i010, hi010, _, hsz10, _⟩ := info_parts info5
            obtain ⟨A10, hcut10, hA10, hC10⟩ := print_mid_of (P := Try.prog) (Value.int .u8) 0 22 5 .i64 .i64 Try.underlying22 hi010 hsz10 A0 c0 l0 a2 (wrap64 (a2 + (l1.length : Int))) (of_decide_eq_true (by first | (with_reducible assumption) | assumption)) (by first | omega | exact of_decide_eq_true (by first | (with_reducible assumption) | assumption)) (of_decide_eq_true (by first | (with_reducible assumption) | assumption)) HC0.out
            have HR191 := Aside0.mk (Kd.C_of_reads (h1 := fun _ => rfl) (hA10 _ (Kd.reads_of_C HR0.out)))
            have HC191 := Aside0.mk hC10
            clear hA10 hC10 hi010 hsz10
            go_enter Try.func24, Try.ntmps24
            go_wp2_with (first | (go_at_call 16; refine calls_of_args (args' := #[.slice A10 ((l0.take ((wrap64 (a2 + (l1.length : Int))) : Int).toNat).drop (a2 : Int).toNat).length (c0 - a2.toNat), .slice A1 l1.length c1]) (by first | rfl | rfl | (simp only [List.length_drop, List.length_take]; done) | (simp [*]; done) | (simp [*]; omega)) ?_; (with_reducible refine (coppicerref_Bytes.calls k _ _ ((l0.take ((wrap64 (a2 + (l1.length : Int))) : Int).toNat).drop (a2 : Int).toNat) _ _ l1 t192 _ ?side1 ?side2 ?side3 ?side4 A9.out).mono ?_); (case side1 => repeat (first | exact HR191.out | (with_reducible refine Kd.C_alloc ?_ _) | (with_reducible refine Kd.C_drewN ?_ _) | (with_reducible refine Kd.C_drew ?_))); (case side2 => exact HC191.out); (case side3 => repeat (first | exact HR1.out | (with_reducible refine Kd.C_alloc ?_ _) | (with_reducible refine Kd.C_drewN ?_ _) | (with_reducible refine Kd.C_drew ?_))); (case side4 => exact HC1.out); rintro e w' ⟨rfl, ⟨nd, rfl⟩⟩))
            go_ret
            exact ⟨by first | rfl | (simp; done) | (simp [*]; done), by repeat (first | exact Drawn0.refl _ | apply Drawn0.step)⟩
          · rw [if_neg c8] at H
            exact absurd H (by simp)
        · rw [if_neg c7] at H
          exact absurd H (by simp)
      · rw [if_neg c6] at H
        exact absurd H (by simp)
    · rw [if_neg c5] at H
      have c5b0 : decide (a2 ≤ (wrap64 ((l0.length : Int) - (l1.length : Int)))) = false := decide_eq_false c5
      clear c5
      obtain rfl := Option.some.inj H
      go_enter Try.func24, Try.ntmps24
      go_wp2
      go_ret
      exact ⟨by first | rfl | (simp; done) | (simp [*]; done), by repeat (first | exact Drawn0.refl _ | apply Drawn0.step)⟩
  · rw [if_neg c4] at H
    have c4b0 : decide (0 ≤ a2) = false := decide_eq_false c4
    clear c4
    obtain rfl := Option.some.inj H
    go_enter Try.func24, Try.ntmps24
    go_wp2
    go_ret
    exact ⟨by first | rfl | (simp; done) | (simp [*]; done), by repeat (first | exact Drawn0.refl _ | apply Drawn0.step)⟩

end Go.Proofs.Ytancbigkdjbhnaa.GA
