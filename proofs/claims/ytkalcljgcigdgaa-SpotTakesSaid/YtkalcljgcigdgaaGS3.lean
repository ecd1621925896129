-- Written by ext.py, a program of this session.
import Derived.Test.YtkalcljgcigdgaaGS0
import Derived.Test.YtkalcljgcigdgaaGS2
namespace Go.Proofs.Ytkalcljgcigdgaa.GS
open Go.RowKit Go.Proofs.YtkalcljgcigdgaaW.PrintWords Go.Proofs.YtkalcljgcigdgaaW.PrintLast Go.Proofs.YtkalcljgcigdgaaW.PrintMore
attribute [local go_sem] max2_int min2_int max_two min_two max_three min_three max_four min_four cellIs_set   -- for this text's walks alone
set_option linter.unusedVariables false
set_option linter.unusedSimpArgs false
/-! ### sentence_Check: function 36 -/
def sentence_Check.f (k : Nat) (a0 : Int) (l1 : List (S128)) : Option (Int):=if a0 < 1 then (some 1) else (if a0 > 3 then (some 1) else (if (l1.length : Int) = 0 then (some 1) else (if (l1.length : Int) > 9 then (some 1) else ((sentence_Right.f k a0 l1).bind fun t107=>(some t107)))))
theorem sentence_Check.mono : ∀ a0 a1 k,LeO (sentence_Check.f k a0 a1) (sentence_Check.f (k + 1) a0 a1):=by
 intro a0 a1 k
 unfold sentence_Check.f
 repeat' first
   | (with_reducible exact sentence_Right.mono _ _ _)
   | (with_reducible exact LeO.refl _)
   | (with_reducible exact LeO.none _)
   | (with_reducible refine LeO.ite ?_ ?_)
   | (with_reducible refine LeO.bind ?_ (fun _=>?_))
   | exact sentence_Right.mono _ _ _
   | exact LeO.none _
   | refine LeO.ite ?_ ?_
   | refine LeO.bind ?_ (fun _=>?_)
set_option maxHeartbeats 8000000 in
set_option maxRecDepth 100000 in
theorem sentence_Check.calls (k : Nat) (a0 : Int) (A1 : Option Addr) (c1 : Nat) (l1 : List (S128)) (r : Int) (w : World) (hr1 : Kd.C k128 w A1 l1.length l1) (hc1 : l1.length ≤ c1) (h : sentence_Check.f k a0 l1 = some r) :
  Calls Try.prog 36 #[.int .i64 a0,.slice A1 l1.length c1] w fun e w'=>e = .returned (.int .i64 r) ∧ Below w.heap.size w w':=by
 have HR1:=Aside0.mk hr1
 have HC1:=Aside0.mk hc1
 clear hr1 hc1
 have HB:=Aside0.mk (Below.refl w.heap.size w)
 have H : (if a0 < 1 then (some 1) else (if a0 > 3 then (some 1) else (if (l1.length : Int) = 0 then (some 1) else (if (l1.length : Int) > 9 then (some 1) else ((sentence_Right.f k a0 l1).bind fun t107=>(some t107)))))) = some r:=h
 clear h
 by_cases c3 : a0 < 1
 ·rw [if_pos c3] at H
  have c3b0 : decide (a0 < 1) = true:=decide_eq_true c3
  clear c3
  obtain rfl:=Option.some.inj H
  go_enter Try.func36,Try.ntmps36
  go_wp2
  go_ret
  exact ⟨by first|rfl|(simp [errW_none,errW_some] <;> rfl)|(simp [*,errW_none,errW_some] <;> rfl),by repeat (first|(with_reducible first|exact HB.out|apply below_alloc|apply pw_below_drewN|apply below_drew1)|exact HB.out)⟩
 ·rw [if_neg c3] at H
  have c3b0 : decide (a0 < 1) = false:=decide_eq_false c3
  clear c3
  by_cases c4 : a0 > 3
  ·rw [if_pos c4] at H
   have c4b0 : decide (3 < a0) = true:=decide_eq_true c4
   clear c4
   obtain rfl:=Option.some.inj H
   go_enter Try.func36,Try.ntmps36
   go_wp2
   go_ret
   exact ⟨by first|rfl|(simp [errW_none,errW_some] <;> rfl)|(simp [*,errW_none,errW_some] <;> rfl),by repeat (first|(with_reducible first|exact HB.out|apply below_alloc|apply pw_below_drewN|apply below_drew1)|exact HB.out)⟩
  ·rw [if_neg c4] at H
   have c4b0 : decide (3 < a0) = false:=decide_eq_false c4
   clear c4
   by_cases c5 : (l1.length : Int) = 0
   ·rw [if_pos c5] at H
    have c5b0 : ((l1.length : Int) == 0) = true:=beq_iff_eq.mpr c5
    have c5b1 : ((l1.length : Int) != 0) = false:=bne_eq_false_iff_eq.mpr c5
    clear c5
    obtain rfl:=Option.some.inj H
    go_enter Try.func36,Try.ntmps36
    go_wp2
    go_ret
    exact ⟨by first|rfl|(simp [errW_none,errW_some] <;> rfl)|(simp [*,errW_none,errW_some] <;> rfl),by repeat (first|(with_reducible first|exact HB.out|apply below_alloc|apply pw_below_drewN|apply below_drew1)|exact HB.out)⟩
   ·rw [if_neg c5] at H
    have c5b0 : ((l1.length : Int) == 0) = false:=beq_eq_false_iff_ne.mpr c5
    have c5b1 : ((l1.length : Int) != 0) = true:=bne_iff_ne.mpr c5
    have c5b2 : ¬ (l1 = []):=fun h_=>c5 (by rw [h_];rfl)
    by_cases c6 : (l1.length : Int) > 9
    ·rw [if_pos c6] at H
     have c6b0 : decide (9 < (l1.length : Int)) = true:=decide_eq_true c6
     have c6b1 : decide (9 < l1.length) = true:=decide_eq_true (by omega)
     clear c6
     obtain rfl:=Option.some.inj H
     go_enter Try.func36,Try.ntmps36
     go_wp2
     go_ret
     exact ⟨by first|rfl|(simp [errW_none,errW_some] <;> rfl)|(simp [*,errW_none,errW_some] <;> rfl),by repeat (first|(with_reducible first|exact HB.out|apply below_alloc|apply pw_below_drewN|apply below_drew1)|exact HB.out)⟩
    ·rw [if_neg c6] at H
     have c6b0 : decide (9 < (l1.length : Int)) = false:=decide_eq_false c6
     have c6b1 : decide (9 < l1.length) = false:=decide_eq_false (by omega)
     clear c6
     replace H:=Option.bind_eq_some_iff.mp H
     obtain ⟨t107,A70,H⟩:=H
     replace H : (some t107) = some r:=H
     have A7:=Aside0.mk A70
     clear A70
     obtain rfl:=Option.some.inj H
     go_enter Try.func36,Try.ntmps36
     go_wp2_with (first|((with_reducible refine gate_callee (f:=70) rfl ?_);refine goesL_ (some 23) rfl rfl Try.func70 (by kernel_rfl) rfl #[.int .i64 a0,.slice A1 l1.length c1] rfl (by (try simp only [List.map_toArray,List.map_cons,List.map_nil]);first|done|rfl|(simp only [List.length_drop,List.length_take];rfl)) ?_;(with_reducible refine (sentence_Right.calls k a0 _ _ l1 t107 _ ?side1 ?side2 A7.out).mono ?_);(case side1=>repeat (first|exact HR1.out|(with_reducible refine Kd.C_alloc ?_ _)|(with_reducible refine Kd.C_drewN ?_ _)|(with_reducible refine Kd.C_drew ?_)));(case side2=>exact HC1.out);rintro e w8 ⟨rfl,hb⟩;refine ⟨_,rfl,?_⟩;have n0_:=Aside0.mk (below_step (by repeat (first|(with_reducible first|exact HB.out|apply below_alloc|apply pw_below_drewN|apply below_drew1)|exact HB.out)) hb);clear HB;have HB:=n0_;clear n0_;(try clear hb);(try clear hb2);(try clear hk);(try clear hi)))
     go_ret
     exact ⟨by first|rfl|(simp [errW_none,errW_some] <;> rfl)|(simp [*,errW_none,errW_some] <;> rfl),by repeat (first|(with_reducible first|exact HB.out|apply below_alloc|apply pw_below_drewN|apply below_drew1)|exact HB.out)⟩
end Go.Proofs.Ytkalcljgcigdgaa.GS
