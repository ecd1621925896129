-- Written by ext.py, a program of this session.
import Derived.Test.YtkalcljgcigdgaaGS0
namespace Go.Proofs.Ytkalcljgcigdgaa.GS
open Go.RowKit Go.Proofs.YtkalcljgcigdgaaW.PrintWords Go.Proofs.YtkalcljgcigdgaaW.PrintLast Go.Proofs.YtkalcljgcigdgaaW.PrintMore
attribute [local go_sem] max2_int min2_int max_two min_two max_three min_three max_four min_four cellIs_set   -- for this text's walks alone
set_option linter.unusedVariables false
set_option linter.unusedSimpArgs false
/-! ### sentence_Right_1: function 93 -/
def sentence_Right_1.f (a0 : Int) (a1 : Int) : Option (Bool):=if a0 ≥ 0 then (some (decide (a0 < a1))) else (some false)
set_option maxHeartbeats 8000000 in
set_option maxRecDepth 100000 in
theorem sentence_Right_1.calls (a0 : Int) (g1 : Nat) (cs1 : Array Value) (a1 : Int) (r : Bool) (w : World) (hB1 : w.heap[g1]? = some (.cells cs1 3 (0,0))) (hv1 : cs1[0]? = some (.int .i64 a1)) (h : sentence_Right_1.f a0 a1 = some r) :
  Calls Try.prog 93 #[.int .i64 a0,.pointer (some ⟨g1,0,none⟩)] w fun e w'=>e = .returned (.bool r) ∧ Drawn0 w w':=by
 have HQ1_:=Aside0.mk ((blk_cell hB1 0).trans hv1 : w.cell? ⟨g1,0,none⟩ = some (.int .i64 a1))
 clear hB1 hv1
 have H : (if a0 ≥ 0 then (some (decide (a0 < a1))) else (some false)) = some r:=h
 clear h
 by_cases c3 : a0 ≥ 0
 ·rw [if_pos c3] at H
  have c3b0 : decide (0 ≤ a0) = true:=decide_eq_true c3
  clear c3
  obtain rfl:=Option.some.inj H
  go_enter Try.func93,Try.ntmps93
  have hcap1_:=HQ1_.out
  go_wp2
  (try clear hcap1_)
  go_ret
  exact ⟨by first|rfl|(simp;done)|(simp [*];done),by repeat (first|exact Drawn0.refl _|apply Drawn0.step)⟩
 ·rw [if_neg c3] at H
  have c3b0 : decide (0 ≤ a0) = false:=decide_eq_false c3
  clear c3
  obtain rfl:=Option.some.inj H
  go_enter Try.func93,Try.ntmps93
  have hcap1_:=HQ1_.out
  go_wp2
  (try clear hcap1_)
  go_ret
  exact ⟨by first|rfl|(simp;done)|(simp [*];done),by repeat (first|exact Drawn0.refl _|apply Drawn0.step)⟩
end Go.Proofs.Ytkalcljgcigdgaa.GS
