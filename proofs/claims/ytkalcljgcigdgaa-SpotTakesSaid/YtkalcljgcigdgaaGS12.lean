-- Written by ext.py, a program of this session.
import Derived.Test.YtkalcljgcigdgaaGS0
import Derived.Test.YtkalcljgcigdgaaGS11
namespace Go.Proofs.Ytkalcljgcigdgaa.GS
open Go.RowKit Go.Proofs.YtkalcljgcigdgaaW.PrintWords Go.Proofs.YtkalcljgcigdgaaW.PrintLast Go.Proofs.YtkalcljgcigdgaaW.PrintMore
attribute [local go_sem] max2_int min2_int max_two min_two max_three min_three max_four min_four cellIs_set   -- for this text's walks alone
set_option linter.unusedVariables false
set_option linter.unusedSimpArgs false
/-! ### coppicerref_SentenceCheck: function 41 -/
def coppicerref_SentenceCheck.f (k : Nat) (a0 : Int) (l1 : List (S128)) : Option (Int):=if a0 < 1 then (some 1) else (if a0 > 3 then (some 1) else (if (l1.length : Int) = 0 then (some 1) else (if (l1.length : Int) > 9 then (some 1) else ((coppicerref_Right.f k a0 l1).bind fun t180=>(some t180)))))
theorem coppicerref_SentenceCheck.mono : ∀ a0 a1 k,LeO (coppicerref_SentenceCheck.f k a0 a1) (coppicerref_SentenceCheck.f (k + 1) a0 a1):=by
 intro a0 a1 k
 unfold coppicerref_SentenceCheck.f
 repeat' first
   | (with_reducible exact coppicerref_Right.mono _ _ _)
   | (with_reducible exact LeO.refl _)
   | (with_reducible exact LeO.none _)
   | (with_reducible refine LeO.ite ?_ ?_)
   | (with_reducible refine LeO.bind ?_ (fun _=>?_))
   | exact coppicerref_Right.mono _ _ _
   | exact LeO.none _
   | refine LeO.ite ?_ ?_
   | refine LeO.bind ?_ (fun _=>?_)
set_option maxHeartbeats 8000000 in
set_option maxRecDepth 100000 in
theorem coppicerref_SentenceCheck.calls (k : Nat) (a0 : Int) (A1 : Option Addr) (c1 : Nat) (l1 : List (S128)) (r : Int) (w : World) (hr1 : Kd.C k128 w A1 l1.length l1) (hc1 : l1.length ≤ c1) (h : coppicerref_SentenceCheck.f k a0 l1 = some r) :
  Calls Try.prog 41 #[.int .i64 a0,.slice A1 l1.length c1] w fun e w'=>e = .returned (.int .i64 r) ∧ Below w.heap.size w w':=by
 have HR1:=Aside0.mk hr1
 have HC1:=Aside0.mk hc1
 clear hr1 hc1
 have HB:=Aside0.mk (Below.refl w.heap.size w)
 have H : (if a0 < 1 then (some 1) else (if a0 > 3 then (some 1) else (if (l1.length : Int) = 0 then (some 1) else (if (l1.length : Int) > 9 then (some 1) else ((coppicerref_Right.f k a0 l1).bind fun t180=>(some t180)))))) = some r:=h
 clear h
 by_cases c3 : a0 < 1
 ·rw [if_pos c3] at H
  have c3b0 : decide (a0 < 1) = true:=decide_eq_true c3
  clear c3
  obtain rfl:=Option.some.inj H
  go_enter Try.func41,Try.ntmps41
  go_wp2
  go_ret
  exact ⟨by first|rfl|(simp [errW_none,errW_some] <;> rfl)|(simp [*,errW_none,errW_some] <;> rfl),by repeat (first|(with_reducible first|exact HB.out|apply below_alloc|apply pw_below_drewN|apply below_drew1)|exact HB.out)⟩
 ·rw [if_neg c3] at H
  have c3b0 : decide (a0 < 1) = false:=decide_eq_false c3
  clear c3
  by_cases c4 : a0 > 3
  ·rw [if_pos c4] at H
   have c4b0 : decide (3 < a0) = true:=decide_eq_true c4
   clear c4
   obtain rfl:=Option.some.inj H
   go_enter Try.func41,Try.ntmps41
   go_wp2
   go_ret
   exact ⟨by first|rfl|(simp [errW_none,errW_some] <;> rfl)|(simp [*,errW_none,errW_some] <;> rfl),by repeat (first|(with_reducible first|exact HB.out|apply below_alloc|apply pw_below_drewN|apply below_drew1)|exact HB.out)⟩
  ·rw [if_neg c4] at H
   have c4b0 : decide (3 < a0) = false:=decide_eq_false c4
   clear c4
   by_cases c5 : (l1.length : Int) = 0
   ·rw [if_pos c5] at H
    have c5b0 : ((l1.length : Int) == 0) = true:=beq_iff_eq.mpr c5
    have c5b1 : ((l1.length : Int) != 0) = false:=bne_eq_false_iff_eq.mpr c5
    clear c5
    obtain rfl:=Option.some.inj H
    go_enter Try.func41,Try.ntmps41
    go_wp2
    go_ret
    exact ⟨by first|rfl|(simp [errW_none,errW_some] <;> rfl)|(simp [*,errW_none,errW_some] <;> rfl),by repeat (first|(with_reducible first|exact HB.out|apply below_alloc|apply pw_below_drewN|apply below_drew1)|exact HB.out)⟩
   ·rw [if_neg c5] at H
    have c5b0 : ((l1.length : Int) == 0) = false:=beq_eq_false_iff_ne.mpr c5
    have c5b1 : ((l1.length : Int) != 0) = true:=bne_iff_ne.mpr c5
    have c5b2 : ¬ (l1 = []):=fun h_=>c5 (by rw [h_];rfl)
    by_cases c6 : (l1.length : Int) > 9
    ·rw [if_pos c6] at H
     have c6b0 : decide (9 < (l1.length : Int)) = true:=decide_eq_true c6
     have c6b1 : decide (9 < l1.length) = true:=decide_eq_true (by omega)
     clear c6
     obtain rfl:=Option.some.inj H
     go_enter Try.func41,Try.ntmps41
     go_wp2
     go_ret
     exact ⟨by first|rfl|(simp [errW_none,errW_some] <;> rfl)|(simp [*,errW_none,errW_some] <;> rfl),by repeat (first|(with_reducible first|exact HB.out|apply below_alloc|apply pw_below_drewN|apply below_drew1)|exact HB.out)⟩
    ·rw [if_neg c6] at H
     have c6b0 : decide (9 < (l1.length : Int)) = false:=decide_eq_false c6
     have c6b1 : decide (9 < l1.length) = false:=decide_eq_false (by omega)
     clear c6
     replace H:=Option.bind_eq_some_iff.mp H
     obtain ⟨t180,A70,H⟩:=H
     replace H : (some t180) = some r:=H
     have A7:=Aside0.mk A70
     clear A70
     obtain rfl:=Option.some.inj H
     go_enter Try.func41,Try.ntmps41
     go_wp2_with (first|((with_reducible refine gate_callee (f:=75) rfl ?_);refine goesL_ (some 23) rfl rfl Try.func75 (by kernel_rfl) rfl #[.int .i64 a0,.slice A1 l1.length c1] rfl (by (try simp only [List.map_toArray,List.map_cons,List.map_nil]);first|done|rfl|(simp only [List.length_drop,List.length_take];rfl)) ?_;(with_reducible refine (coppicerref_Right.calls k a0 _ _ l1 t180 _ ?side1 ?side2 A7.out).mono ?_);(case side1=>repeat (first|exact HR1.out|(with_reducible refine Kd.C_alloc ?_ _)|(with_reducible refine Kd.C_drewN ?_ _)|(with_reducible refine Kd.C_drew ?_)));(case side2=>exact HC1.out);rintro e w8 ⟨rfl,hb⟩;refine ⟨_,rfl,?_⟩;have n0_:=Aside0.mk (below_step (by repeat (first|(with_reducible first|exact HB.out|apply below_alloc|apply pw_below_drewN|apply below_drew1)|exact HB.out)) hb);clear HB;have HB:=n0_;clear n0_;(try clear hb);(try clear hb2);(try clear hk);(try clear hi)))
     go_ret
     exact ⟨by first|rfl|(simp [errW_none,errW_some] <;> rfl)|(simp [*,errW_none,errW_some] <;> rfl),by repeat (first|(with_reducible first|exact HB.out|apply below_alloc|apply pw_below_drewN|apply below_drew1)|exact HB.out)⟩
/-! ### coppicerref_WordCheck: function 42 -/
def coppicerref_WordCheck.l0 : Nat → Int → List Int → Int → Int → Option (Int)
 | 0,_,_,_,_=>none
 | k + 1,x0,x10,x11,x12=>if x12 < x11 then (if 0 ≤ x12 then (if x12 < (x10.length : Int) then (if (rd x10 x12) < 0 then (some 2) else (if (rd x10 x12) ≥ x0 then (some 2) else (coppicerref_WordCheck.l0 k x0 x10 x11 (wrap64 (x12 + 1))))) else (none)) else (none)) else (some 0)
def coppicerref_WordCheck.f (k : Nat) (a0 : Int) (l1 : List Int) : Option (Int):=if (l1.length : Int) > 12 then (some 1) else (coppicerref_WordCheck.l0 k a0 l1 (l1.length : Int) 0)
theorem coppicerref_WordCheck.mono_l : ∀ k,(∀ y0 y1 y2 y3,LeO (coppicerref_WordCheck.l0 k y0 y1 y2 y3) (coppicerref_WordCheck.l0 (k + 1) y0 y1 y2 y3))
 | 0=>fun _ _ _ _ r h=>by simp [coppicerref_WordCheck.l0] at h
 | k + 1=>by
  have ih0:=coppicerref_WordCheck.mono_l k
  ·intro y0 y1 y2 y3
   unfold coppicerref_WordCheck.l0
   repeat' first
   | (with_reducible exact ih0 _ _ _ _)
   | (with_reducible exact LeO.refl _)
   | (with_reducible exact LeO.none _)
   | (with_reducible refine LeO.ite ?_ ?_)
   | (with_reducible refine LeO.bind ?_ (fun _=>?_))
   | exact ih0 _ _ _ _
   | exact LeO.none _
   | refine LeO.ite ?_ ?_
   | refine LeO.bind ?_ (fun _=>?_)
theorem coppicerref_WordCheck.mono : ∀ a0 a1 k,LeO (coppicerref_WordCheck.f k a0 a1) (coppicerref_WordCheck.f (k + 1) a0 a1):=by
 intro a0 a1 k
 have ih0:=coppicerref_WordCheck.mono_l k
 unfold coppicerref_WordCheck.f
 repeat' first
   | (with_reducible exact ih0 _ _ _ _)
   | (with_reducible exact LeO.refl _)
   | (with_reducible exact LeO.none _)
   | (with_reducible refine LeO.ite ?_ ?_)
   | (with_reducible refine LeO.bind ?_ (fun _=>?_))
   | exact ih0 _ _ _ _
   | exact LeO.none _
   | refine LeO.ite ?_ ?_
   | refine LeO.bind ?_ (fun _=>?_)
set_option maxHeartbeats 8000000 in
set_option maxRecDepth 100000 in
theorem coppicerref_WordCheck.calls (k : Nat) (a0 : Int) (A1 : Option Addr) (c1 : Nat) (l1 : List Int) (r : Int) (w : World) (hr1 : Kd.C (Kd.int .i64) w A1 l1.length l1) (hc1 : l1.length ≤ c1) (h : coppicerref_WordCheck.f k a0 l1 = some r) :
  Calls Try.prog 42 #[.int .i64 a0,.slice A1 l1.length c1] w fun e w'=>e = .returned (.int .i64 r) ∧ Drawn0 w w':=by
 have HR1:=Aside0.mk hr1
 have HC1:=Aside0.mk hc1
 clear hr1 hc1
 have H : (if (l1.length : Int) > 12 then (some 1) else (coppicerref_WordCheck.l0 k a0 l1 (l1.length : Int) 0)) = some r:=h
 clear h
 by_cases c3 : (l1.length : Int) > 12
 ·rw [if_pos c3] at H
  have c3b0 : decide (12 < (l1.length : Int)) = true:=decide_eq_true c3
  have c3b1 : decide (12 < l1.length) = true:=decide_eq_true (by omega)
  clear c3
  obtain rfl:=Option.some.inj H
  go_enter Try.func42,Try.ntmps42
  go_wp2
  go_ret
  exact ⟨by first|rfl|(simp;done)|(simp [*];done),by repeat (first|exact Drawn0.refl _|apply Drawn0.step)⟩
 ·rw [if_neg c3] at H
  have c3b0 : decide (12 < (l1.length : Int)) = false:=decide_eq_false c3
  have c3b1 : decide (12 < l1.length) = false:=decide_eq_false (by omega)
  clear c3
  have H':=Aside0.mk H
  clear H
  go_enter Try.func42,Try.ntmps42
  go_wp2
  go_loopg [12] k (fun kq v12 w'=>∃ (x12_1 : Int),v12 = .int .i64 x12_1 ∧ Aside0 (coppicerref_WordCheck.l0 kq a0 l1 (l1.length : Int) x12_1 = some r) ∧ Aside0 (kq ≤ k) ∧ Drawn0 w w')
  case atStart=>exact ⟨(0),(by first|rfl|(simp;done)|(simp [*];done)),H',⟨Nat.le_refl _⟩,by repeat (first|exact Drawn0.refl _|apply Drawn0.step)⟩
  case round =>
   clear H'
   try clear c1
   try clear p2
   try clear c3
   try clear c3b0
   try clear c3b1
   obtain ⟨x12_1,rfl,HA,HK1,⟨m1,rfl⟩⟩:=hrel
   cases gk with
   | zero=>exact absurd HA.out (by simp [coppicerref_WordCheck.l0])
   | succ k1 =>
    have H:=HA.out
    clear HA
    simp only [coppicerref_WordCheck.l0] at H
    by_cases c4 : x12_1 < (l1.length : Int)
    ·rw [if_pos c4] at H
     have c4b0 : decide (x12_1 < (l1.length : Int)) = true:=decide_eq_true c4
     clear c4
     by_cases c5 : 0 ≤ x12_1
     ·rw [if_pos c5] at H
      have c5b0 : decide (0 ≤ x12_1) = true:=decide_eq_true c5
      clear c5
      by_cases c6 : x12_1 < (l1.length : Int)
      ·rw [if_pos c6] at H
       have c6b0 : decide (x12_1 < (l1.length : Int)) = true:=decide_eq_true c6
       clear c6
       by_cases c7 : (rd l1 x12_1) < 0
       ·rw [if_pos c7] at H
        have c7b0 : decide ((rd l1 x12_1) < 0) = true:=decide_eq_true c7
        clear c7
        obtain rfl:=Option.some.inj H
        have p181 : 0 ≤ (x12_1 : Int):=of_decide_eq_true (by first|(with_reducible assumption)|assumption)
        have q181 : x12_1 < (l1.length : Int):=of_decide_eq_true (by first|(with_reducible assumption)|assumption)
        obtain ⟨ad181,e181,hx181_0⟩:=Kd.at_int HR1.out x12_1 p181 q181
        cases e181
        replace p181:=eq_true p181
        replace q181:=eq_true q181
        go_wp2
        go_ret
        exact ⟨by first|rfl|(simp;done)|(simp [*];done),by repeat (first|exact Drawn0.refl _|apply Drawn0.step)⟩
       ·rw [if_neg c7] at H
        have c7b0 : decide ((rd l1 x12_1) < 0) = false:=decide_eq_false c7
        clear c7
        by_cases c8 : (rd l1 x12_1) ≥ a0
        ·rw [if_pos c8] at H
         have c8b0 : decide (a0 ≤ (rd l1 x12_1)) = true:=decide_eq_true c8
         clear c8
         obtain rfl:=Option.some.inj H
         have p181 : 0 ≤ (x12_1 : Int):=of_decide_eq_true (by first|(with_reducible assumption)|assumption)
         have q181 : x12_1 < (l1.length : Int):=of_decide_eq_true (by first|(with_reducible assumption)|assumption)
         obtain ⟨ad181,e181,hx181_0⟩:=Kd.at_int HR1.out x12_1 p181 q181
         cases e181
         replace p181:=eq_true p181
         replace q181:=eq_true q181
         go_wp2
         go_ret
         exact ⟨by first|rfl|(simp;done)|(simp [*];done),by repeat (first|exact Drawn0.refl _|apply Drawn0.step)⟩
        ·rw [if_neg c8] at H
         have c8b0 : decide (a0 ≤ (rd l1 x12_1)) = false:=decide_eq_false c8
         clear c8
         have H':=Aside0.mk H
         clear H
         have p181 : 0 ≤ (x12_1 : Int):=of_decide_eq_true (by first|(with_reducible assumption)|assumption)
         have q181 : x12_1 < (l1.length : Int):=of_decide_eq_true (by first|(with_reducible assumption)|assumption)
         obtain ⟨ad181,e181,hx181_0⟩:=Kd.at_int HR1.out x12_1 p181 q181
         cases e181
         replace p181:=eq_true p181
         replace q181:=eq_true q181
         go_wp2
         go_roundg k1
         case measure=>have:=HK1.out;omega
         case rel=>exact ⟨(wrap64 (x12_1 + 1)),(by first|rfl|(simp;done)|(simp [*];done)),H',⟨by have:=HK1.out;omega⟩,by repeat (first|exact Drawn0.refl _|apply Drawn0.step)⟩
      ·rw [if_neg c6] at H
       exact absurd H (by simp)
     ·rw [if_neg c5] at H
      exact absurd H (by simp)
    ·rw [if_neg c4] at H
     have c4b0 : decide (x12_1 < (l1.length : Int)) = false:=decide_eq_false c4
     clear c4
     obtain rfl:=Option.some.inj H
     go_wp2
     go_ret
     exact ⟨by first|rfl|(simp;done)|(simp [*];done),by repeat (first|exact Drawn0.refl _|apply Drawn0.step)⟩
/-! ### coppicerkeep_said: function 16 -/
def coppicerkeep_said.f (k : Nat) (a0 : Int) (l1 : List (S128)) (l2 : List Int) : Option (Bool):=(coppicerref_SentenceCheck.f k a0 l1).bind fun t182=>(if t182 = 0 then ((coppicerref_WordCheck.f k a0 l2).bind fun t183=>(some (t183 == 0))) else (some false))
theorem coppicerkeep_said.mono : ∀ a0 a1 a2 k,LeO (coppicerkeep_said.f k a0 a1 a2) (coppicerkeep_said.f (k + 1) a0 a1 a2):=by
 intro a0 a1 a2 k
 unfold coppicerkeep_said.f
 repeat' first
   | (with_reducible exact coppicerref_SentenceCheck.mono _ _ _)
   | (with_reducible exact coppicerref_WordCheck.mono _ _ _)
   | (with_reducible exact LeO.refl _)
   | (with_reducible exact LeO.none _)
   | (with_reducible refine LeO.ite ?_ ?_)
   | (with_reducible refine LeO.bind ?_ (fun _=>?_))
   | exact coppicerref_SentenceCheck.mono _ _ _
   | exact coppicerref_WordCheck.mono _ _ _
   | exact LeO.none _
   | refine LeO.ite ?_ ?_
   | refine LeO.bind ?_ (fun _=>?_)
set_option maxHeartbeats 8000000 in
set_option maxRecDepth 100000 in
theorem coppicerkeep_said.calls (k : Nat) (a0 : Int) (A1 : Option Addr) (c1 : Nat) (l1 : List (S128)) (A2 : Option Addr) (c2 : Nat) (l2 : List Int) (r : Bool) (w : World) (hr1 : Kd.C k128 w A1 l1.length l1) (hc1 : l1.length ≤ c1) (hr2 : Kd.C (Kd.int .i64) w A2 l2.length l2) (hc2 : l2.length ≤ c2) (h : coppicerkeep_said.f k a0 l1 l2 = some r) :
  Calls Try.prog 16 #[.int .i64 a0,.slice A1 l1.length c1,.slice A2 l2.length c2] w fun e w'=>e = .returned (.bool r) ∧ Below w.heap.size w w':=by
 have HR1:=Aside0.mk hr1
 have HC1:=Aside0.mk hc1
 clear hr1 hc1
 have HR2:=Aside0.mk hr2
 have HC2:=Aside0.mk hc2
 clear hr2 hc2
 have HB:=Aside0.mk (Below.refl w.heap.size w)
 have H : ((coppicerref_SentenceCheck.f k a0 l1).bind fun t182=>(if t182 = 0 then ((coppicerref_WordCheck.f k a0 l2).bind fun t183=>(some (t183 == 0))) else (some false))) = some r:=h
 clear h
 replace H:=Option.bind_eq_some_iff.mp H
 obtain ⟨t182,A40,H⟩:=H
 replace H : (if t182 = 0 then ((coppicerref_WordCheck.f k a0 l2).bind fun t183=>(some (t183 == 0))) else (some false)) = some r:=H
 have A4:=Aside0.mk A40
 clear A40
 by_cases c5 : t182 = 0
 ·rw [if_pos c5] at H
  have c5b0 : (t182 == 0) = true:=beq_iff_eq.mpr c5
  have c5b1 : (t182 != 0) = false:=bne_eq_false_iff_eq.mpr c5
  clear c5
  replace H:=Option.bind_eq_some_iff.mp H
  obtain ⟨t183,A60,H⟩:=H
  replace H : (some (t183 == 0)) = some r:=H
  have A6:=Aside0.mk A60
  clear A60
  obtain rfl:=Option.some.inj H
  go_enter Try.func16,Try.ntmps16
  go_wp2_with (first|((with_reducible refine gate_callee (f:=41) rfl ?_);refine goesL_ (some 9) rfl rfl Try.func41 (by kernel_rfl) rfl #[.int .i64 a0,.slice A1 l1.length c1] rfl (by (try simp only [List.map_toArray,List.map_cons,List.map_nil]);first|done|rfl|(simp only [List.length_drop,List.length_take];rfl)) ?_;(with_reducible refine (coppicerref_SentenceCheck.calls k a0 _ _ l1 t182 _ ?side1 ?side2 A4.out).mono ?_);(case side1=>repeat (first|exact HR1.out|(with_reducible refine Kd.C_alloc ?_ _)|(with_reducible refine Kd.C_drewN ?_ _)|(with_reducible refine Kd.C_drew ?_)));(case side2=>exact HC1.out);rintro e w7 ⟨rfl,hb⟩;refine ⟨_,rfl,?_⟩;have n0_:=Aside0.mk (below_step (by repeat (first|(with_reducible first|exact HB.out|apply below_alloc|apply pw_below_drewN|apply below_drew1)|exact HB.out)) hb);clear HB;have HB:=n0_;clear n0_;(try clear hb);(try clear hb2);(try clear hk);(try clear hi))|(go_at_call 42;(with_reducible refine (coppicerref_WordCheck.calls k a0 _ _ l2 t183 _ ?side1 ?side2 A6.out).mono ?_);(case side1=>repeat (first|exact (Kd.C_below HR2.out HB.out)|(with_reducible refine Kd.C_alloc ?_ _)|(with_reducible refine Kd.C_drewN ?_ _)|(with_reducible refine Kd.C_drew ?_)));(case side2=>exact HC2.out);rintro e w' ⟨rfl,⟨nd,rfl⟩⟩))
  go_ret
  exact ⟨by first|rfl|(simp [errW_none,errW_some] <;> rfl)|(simp [*,errW_none,errW_some] <;> rfl),by repeat (first|(with_reducible first|exact HB.out|apply below_alloc|apply pw_below_drewN|apply below_drew1)|exact HB.out)⟩
 ·rw [if_neg c5] at H
  have c5b0 : (t182 == 0) = false:=beq_eq_false_iff_ne.mpr c5
  have c5b1 : (t182 != 0) = true:=bne_iff_ne.mpr c5
  obtain rfl:=Option.some.inj H
  go_enter Try.func16,Try.ntmps16
  go_wp2_with (first|((with_reducible refine gate_callee (f:=41) rfl ?_);refine goesL_ (some 9) rfl rfl Try.func41 (by kernel_rfl) rfl #[.int .i64 a0,.slice A1 l1.length c1] rfl (by (try simp only [List.map_toArray,List.map_cons,List.map_nil]);first|done|rfl|(simp only [List.length_drop,List.length_take];rfl)) ?_;(with_reducible refine (coppicerref_SentenceCheck.calls k a0 _ _ l1 t182 _ ?side1 ?side2 A4.out).mono ?_);(case side1=>repeat (first|exact HR1.out|(with_reducible refine Kd.C_alloc ?_ _)|(with_reducible refine Kd.C_drewN ?_ _)|(with_reducible refine Kd.C_drew ?_)));(case side2=>exact HC1.out);rintro e w8 ⟨rfl,hb⟩;refine ⟨_,rfl,?_⟩;have n0_:=Aside0.mk (below_step (by repeat (first|(with_reducible first|exact HB.out|apply below_alloc|apply pw_below_drewN|apply below_drew1)|exact HB.out)) hb);clear HB;have HB:=n0_;clear n0_;(try clear hb);(try clear hb2);(try clear hk);(try clear hi)))
  go_ret
  exact ⟨by first|rfl|(simp [errW_none,errW_some] <;> rfl)|(simp [*,errW_none,errW_some] <;> rfl),by repeat (first|(with_reducible first|exact HB.out|apply below_alloc|apply pw_below_drewN|apply below_drew1)|exact HB.out)⟩
end Go.Proofs.Ytkalcljgcigdgaa.GS
