-- Written by ext.py, a program of this session.
import Derived.Test.YthgiiikjcfhgjaaGT0
namespace Go.Proofs.Ythgiiikjcfhgjaa.GT
open Go.RowKit Go.Proofs.YthgiiikjcfhgjaaW.PrintWords Go.Proofs.YthgiiikjcfhgjaaW.PrintLast Go.Proofs.YthgiiikjcfhgjaaW.PrintMore
attribute [local go_sem] max2_int min2_int max_two min_two max_three min_three max_four min_four cellIs_set   -- for this text's walks alone
set_option linter.unusedVariables false
set_option linter.unusedSimpArgs false

/-! ### table_times: function 115 -/
def table_times.f (a0 : Int) (a1 : Int) : Option (Int) := if a0 > 0 then (if a1 > (wrap64 (Int.tdiv 1099511627777 a0)) then (some 1099511627777) else (some (wrap64 (a0 * a1)))) else (some (wrap64 (a0 * a1)))
set_option maxHeartbeats 8000000 in
set_option maxRecDepth 100000 in
theorem table_times.calls (a0 : Int) (a1 : Int) (r : Int) (w : World) (h : table_times.f a0 a1 = some r) :
    Calls Try.prog 115 #[.int .i64 a0, .int .i64 a1] w fun e w' => e = .returned (.int .i64 r) ∧ Drawn0 w w' := by
  have H := h
  unfold table_times.f at H
  clear h
  by_cases c3 : a0 > 0
  · rw [if_pos c3] at H
    have c3b0 : decide (0 < a0) = true := decide_eq_true c3
    have c4 : ¬ a0 = 0 := by omega
    have c4b0 : (a0 == 0) = false := beq_eq_false_iff_ne.mpr c4
    have c4b1 : (a0 != 0) = true := bne_iff_ne.mpr c4
    clear c3
    by_cases c5 : a1 > (wrap64 (Int.tdiv 1099511627777 a0))
    · rw [if_pos c5] at H
      have c5b0 : decide ((wrap64 (Int.tdiv 1099511627777 a0)) < a1) = true := decide_eq_true c5
      clear c5
      obtain rfl := Option.some.inj H
      go_enter Try.func115, Try.ntmps115
      go_wp2
      go_ret
      exact ⟨by first | rfl | (simp; done) | (simp [*]; done), by repeat (first | exact Drawn0.refl _ | apply Drawn0.step)⟩
    · rw [if_neg c5] at H
      have c5b0 : decide ((wrap64 (Int.tdiv 1099511627777 a0)) < a1) = false := decide_eq_false c5
      clear c5
      obtain rfl := Option.some.inj H
      go_enter Try.func115, Try.ntmps115
      go_wp2
      go_ret
      exact ⟨by first | rfl | (simp; done) | (simp [*]; done), by repeat (first | exact Drawn0.refl _ | apply Drawn0.step)⟩
  · rw [if_neg c3] at H
    have c3b0 : decide (0 < a0) = false := decide_eq_false c3
    obtain rfl := Option.some.inj H
    clear c3 H
    go_enter Try.func115, Try.ntmps115
    go_wp2
    go_ret
    exact ⟨by first | rfl | (simp; done) | (simp [*]; done), by repeat (first | exact Drawn0.refl _ | apply Drawn0.step)⟩

-- NOT PRINTED: function 78 (table_Count_Rest)

-- NOT PRINTED: function 74 (table_Count_Sign)

end Go.Proofs.Ythgiiikjcfhgjaa.GT
