-- Written by ext.py, a program of this session.
import Derived.Test.YteppbihlpicjpaaGM0
import Derived.Test.YteppbihlpicjpaaGM1
import Derived.Test.YteppbihlpicjpaaGM13
namespace Go.Proofs.Yteppbihlpicjpaa.GM
open Go.RowKit Go.Proofs.YteppbihlpicjpaaW.PrintWords Go.Proofs.YteppbihlpicjpaaW.PrintLast Go.Proofs.YteppbihlpicjpaaW.PrintMore
attribute [local go_sem] max2_int min2_int max_two min_two max_three min_three max_four min_four cellIs_set   -- for this text's walks alone
set_option linter.unusedVariables false
set_option linter.unusedSimpArgs false
attribute [local go_sem high] eqA44
/-! ### coppicerref_WordCheck: function 19 -/
def coppicerref_WordCheck.l0 : Nat → Int → List Int → Int → Int → Option (Int)
 | 0,_,_,_,_=>none
 | k + 1,x0,x10,x11,x12=>if x12 < x11 then (if 0 ≤ x12 then (if x12 < (x10.length : Int) then (if (rd x10 x12) < 0 then (some 2) else (if (rd x10 x12) ≥ x0 then (some 2) else (coppicerref_WordCheck.l0 k x0 x10 x11 (wrap64 (x12 + 1))))) else (none)) else (none)) else (some 0)
def coppicerref_WordCheck.f (k : Nat) (a0 : Int) (l1 : List Int) : Option (Int):=if (l1.length : Int) > 12 then (some 1) else (coppicerref_WordCheck.l0 k a0 l1 (l1.length : Int) 0)
theorem coppicerref_WordCheck.mono_l : ∀ k,(∀ y0 y1 y2 y3,LeO (coppicerref_WordCheck.l0 k y0 y1 y2 y3) (coppicerref_WordCheck.l0 (k + 1) y0 y1 y2 y3))
 | 0=>fun _ _ _ _ r h=>by simp [coppicerref_WordCheck.l0] at h
 | k + 1=>by
  have ih0:=coppicerref_WordCheck.mono_l k
  ·intro y0 y1 y2 y3
   unfold coppicerref_WordCheck.l0
   repeat' first
   | (with_reducible exact ih0 _ _ _ _)
   | (with_reducible exact LeO.refl _)
   | (with_reducible exact LeO.none _)
   | (with_reducible refine LeO.ite ?_ ?_)
   | (with_reducible refine LeO.bind ?_ (fun _=>?_))
   | exact ih0 _ _ _ _
   | exact LeO.none _
   | refine LeO.ite ?_ ?_
   | refine LeO.bind ?_ (fun _=>?_)
theorem coppicerref_WordCheck.mono : ∀ a0 a1 k,LeO (coppicerref_WordCheck.f k a0 a1) (coppicerref_WordCheck.f (k + 1) a0 a1):=by
 intro a0 a1 k
 have ih0:=coppicerref_WordCheck.mono_l k
 unfold coppicerref_WordCheck.f
 repeat' first
   | (with_reducible exact ih0 _ _ _ _)
   | (with_reducible exact LeO.refl _)
   | (with_reducible exact LeO.none _)
   | (with_reducible refine LeO.ite ?_ ?_)
   | (with_reducible refine LeO.bind ?_ (fun _=>?_))
   | exact ih0 _ _ _ _
   | exact LeO.none _
   | refine LeO.ite ?_ ?_
   | refine LeO.bind ?_ (fun _=>?_)
set_option maxHeartbeats 8000000 in
set_option maxRecDepth 100000 in
theorem coppicerref_WordCheck.calls (k : Nat) (a0 : Int) (A1 : Option Addr) (c1 : Nat) (l1 : List Int) (r : Int) (w : World) (hr1 : Kd.C (Kd.int .i64) w A1 l1.length l1) (hc1 : l1.length ≤ c1) (h : coppicerref_WordCheck.f k a0 l1 = some r) :
  Calls Try.prog 19 #[.int .i64 a0,.slice A1 l1.length c1] w fun e w'=>e = .returned (.int .i64 r) ∧ Drawn0 w w':=by
 have HR1:=Aside0.mk hr1
 have HC1:=Aside0.mk hc1
 clear hr1 hc1
 have H : (if (l1.length : Int) > 12 then (some 1) else (coppicerref_WordCheck.l0 k a0 l1 (l1.length : Int) 0)) = some r:=h
 clear h
 by_cases c3 : (l1.length : Int) > 12
 ·rw [if_pos c3] at H
  have c3b0 : decide (12 < (l1.length : Int)) = true:=decide_eq_true c3
  have c3b1 : decide (12 < l1.length) = true:=decide_eq_true (by omega)
  clear c3
  obtain rfl:=Option.some.inj H
  go_enter Try.func19,Try.ntmps19
  go_wp2
  go_ret
  exact ⟨by first|rfl|(simp;done)|(simp [*];done),by repeat (first|exact Drawn0.refl _|apply Drawn0.step)⟩
 ·rw [if_neg c3] at H
  have c3b0 : decide (12 < (l1.length : Int)) = false:=decide_eq_false c3
  have c3b1 : decide (12 < l1.length) = false:=decide_eq_false (by omega)
  clear c3
  have H':=Aside0.mk H
  clear H
  go_enter Try.func19,Try.ntmps19
  go_wp2
  go_loopg [12] k (fun kq v12 w'=>∃ (x12_1 : Int),v12 = .int .i64 x12_1 ∧ Aside0 (coppicerref_WordCheck.l0 kq a0 l1 (l1.length : Int) x12_1 = some r) ∧ Aside0 (kq ≤ k) ∧ Drawn0 w w')
  case atStart=>exact ⟨(0),(by first|rfl|(simp;done)|(simp [*];done)),H',⟨Nat.le_refl _⟩,by repeat (first|exact Drawn0.refl _|apply Drawn0.step)⟩
  case round =>
   clear H'
   try clear c1
   try clear p2
   try clear c3
   try clear c3b0
   try clear c3b1
   obtain ⟨x12_1,rfl,HA,HK1,⟨m1,rfl⟩⟩:=hrel
   cases gk with
   | zero=>exact absurd HA.out (by simp [coppicerref_WordCheck.l0])
   | succ k1 =>
    have H:=HA.out
    clear HA
    simp only [coppicerref_WordCheck.l0] at H
    by_cases c4 : x12_1 < (l1.length : Int)
    ·rw [if_pos c4] at H
     have c4b0 : decide (x12_1 < (l1.length : Int)) = true:=decide_eq_true c4
     clear c4
     by_cases c5 : 0 ≤ x12_1
     ·rw [if_pos c5] at H
      have c5b0 : decide (0 ≤ x12_1) = true:=decide_eq_true c5
      clear c5
      by_cases c6 : x12_1 < (l1.length : Int)
      ·rw [if_pos c6] at H
       have c6b0 : decide (x12_1 < (l1.length : Int)) = true:=decide_eq_true c6
       clear c6
       by_cases c7 : (rd l1 x12_1) < 0
       ·rw [if_pos c7] at H
        have c7b0 : decide ((rd l1 x12_1) < 0) = true:=decide_eq_true c7
        clear c7
        obtain rfl:=Option.some.inj H
        have p249 : 0 ≤ (x12_1 : Int):=of_decide_eq_true (by first|(with_reducible assumption)|assumption)
        have q249 : x12_1 < (l1.length : Int):=of_decide_eq_true (by first|(with_reducible assumption)|assumption)
        obtain ⟨ad249,e249,hx249_0⟩:=Kd.at_int HR1.out x12_1 p249 q249
        cases e249
        replace p249:=eq_true p249
        replace q249:=eq_true q249
        go_wp2
        go_ret
        exact ⟨by first|rfl|(simp;done)|(simp [*];done),by repeat (first|exact Drawn0.refl _|apply Drawn0.step)⟩
       ·rw [if_neg c7] at H
        have c7b0 : decide ((rd l1 x12_1) < 0) = false:=decide_eq_false c7
        clear c7
        by_cases c8 : (rd l1 x12_1) ≥ a0
        ·rw [if_pos c8] at H
         have c8b0 : decide (a0 ≤ (rd l1 x12_1)) = true:=decide_eq_true c8
         clear c8
         obtain rfl:=Option.some.inj H
         have p249 : 0 ≤ (x12_1 : Int):=of_decide_eq_true (by first|(with_reducible assumption)|assumption)
         have q249 : x12_1 < (l1.length : Int):=of_decide_eq_true (by first|(with_reducible assumption)|assumption)
         obtain ⟨ad249,e249,hx249_0⟩:=Kd.at_int HR1.out x12_1 p249 q249
         cases e249
         replace p249:=eq_true p249
         replace q249:=eq_true q249
         go_wp2
         go_ret
         exact ⟨by first|rfl|(simp;done)|(simp [*];done),by repeat (first|exact Drawn0.refl _|apply Drawn0.step)⟩
        ·rw [if_neg c8] at H
         have c8b0 : decide (a0 ≤ (rd l1 x12_1)) = false:=decide_eq_false c8
         clear c8
         have H':=Aside0.mk H
         clear H
         have p249 : 0 ≤ (x12_1 : Int):=of_decide_eq_true (by first|(with_reducible assumption)|assumption)
         have q249 : x12_1 < (l1.length : Int):=of_decide_eq_true (by first|(with_reducible assumption)|assumption)
         obtain ⟨ad249,e249,hx249_0⟩:=Kd.at_int HR1.out x12_1 p249 q249
         cases e249
         replace p249:=eq_true p249
         replace q249:=eq_true q249
         go_wp2
         go_roundg k1
         case measure=>have:=HK1.out;omega
         case rel=>exact ⟨(wrap64 (x12_1 + 1)),(by first|rfl|(simp;done)|(simp [*];done)),H',⟨by have:=HK1.out;omega⟩,by repeat (first|exact Drawn0.refl _|apply Drawn0.step)⟩
      ·rw [if_neg c6] at H
       exact absurd H (by simp)
     ·rw [if_neg c5] at H
      exact absurd H (by simp)
    ·rw [if_neg c4] at H
     have c4b0 : decide (x12_1 < (l1.length : Int)) = false:=decide_eq_false c4
     clear c4
     obtain rfl:=Option.some.inj H
     go_wp2
     go_ret
     exact ⟨by first|rfl|(simp;done)|(simp [*];done),by repeat (first|exact Drawn0.refl _|apply Drawn0.step)⟩
/-! ### coppicerkeep_good: function 6 -/
def coppicerkeep_good.f (k : Nat) (a0_0 : Int) (a0_1 : Int) (l0_2 : List (List Int)) (a0_3 : Int) (a0_4 : Int) (l1 : List Int) : Option (Bool):=(coppicerref_MachineCheck.f k a0_0 a0_1 l0_2 a0_3 a0_4).bind fun t251=>(if t251 = 0 then ((coppicerref_WordCheck.f k a0_1 l1).bind fun t252=>(some (t252 == 0))) else (some false))
theorem coppicerkeep_good.mono : ∀ a0 a1 a2 a3 a4 a5 k,LeO (coppicerkeep_good.f k a0 a1 a2 a3 a4 a5) (coppicerkeep_good.f (k + 1) a0 a1 a2 a3 a4 a5):=by
 intro a0 a1 a2 a3 a4 a5 k
 unfold coppicerkeep_good.f
 repeat' first
   | (with_reducible exact coppicerref_MachineCheck.mono _ _ _ _ _ _)
   | (with_reducible exact coppicerref_WordCheck.mono _ _ _)
   | (with_reducible exact LeO.refl _)
   | (with_reducible exact LeO.none _)
   | (with_reducible refine LeO.ite ?_ ?_)
   | (with_reducible refine LeO.bind ?_ (fun _=>?_))
   | exact coppicerref_MachineCheck.mono _ _ _ _ _ _
   | exact coppicerref_WordCheck.mono _ _ _
   | exact LeO.none _
   | refine LeO.ite ?_ ?_
   | refine LeO.bind ?_ (fun _=>?_)
set_option maxHeartbeats 8000000 in
set_option maxRecDepth 100000 in
theorem coppicerkeep_good.calls (k : Nat) (a0_0 : Int) (a0_1 : Int) (A0_2 : Option Addr) (c0_2 : Nat) (l0_2 : List (List Int)) (a0_3 : Int) (a0_4 : Int) (A1 : Option Addr) (c1 : Nat) (l1 : List Int) (r : Bool) (w : World) (hr0_2 : Kd.C (Kd.slice 3 (Kd.int .i64)) w A0_2 l0_2.length l0_2) (hc0_2 : l0_2.length ≤ c0_2) (hr1 : Kd.C (Kd.int .i64) w A1 l1.length l1) (hc1 : l1.length ≤ c1) (h : coppicerkeep_good.f k a0_0 a0_1 l0_2 a0_3 a0_4 l1 = some r) :
  Calls Try.prog 6 #[.agg #[.int .i64 a0_0,.int .i64 a0_1,.slice A0_2 l0_2.length c0_2,.int .i64 a0_3,.int .u32 a0_4],.slice A1 l1.length c1] w fun e w'=>e = .returned (.bool r) ∧ Below w.heap.size w w':=by
 have hu25:=Try.underlying25
 have HR0_2:=Aside0.mk hr0_2
 have HC0_2:=Aside0.mk hc0_2
 clear hr0_2 hc0_2
 have HR1:=Aside0.mk hr1
 have HC1:=Aside0.mk hc1
 clear hr1 hc1
 have HB:=Aside0.mk (Below.refl w.heap.size w)
 have H : ((coppicerref_MachineCheck.f k a0_0 a0_1 l0_2 a0_3 a0_4).bind fun t251=>(if t251 = 0 then ((coppicerref_WordCheck.f k a0_1 l1).bind fun t252=>(some (t252 == 0))) else (some false))) = some r:=h
 clear h
 replace H:=Option.bind_eq_some_iff.mp H
 obtain ⟨t251,A30,H⟩:=H
 replace H : (if t251 = 0 then ((coppicerref_WordCheck.f k a0_1 l1).bind fun t252=>(some (t252 == 0))) else (some false)) = some r:=H
 have A3:=Aside0.mk A30
 clear A30
 by_cases c4 : t251 = 0
 ·rw [if_pos c4] at H
  have c4b0 : (t251 == 0) = true:=beq_iff_eq.mpr c4
  have c4b1 : (t251 != 0) = false:=bne_eq_false_iff_eq.mpr c4
  clear c4
  replace H:=Option.bind_eq_some_iff.mp H
  obtain ⟨t252,A50,H⟩:=H
  replace H : (some (t252 == 0)) = some r:=H
  have A5:=Aside0.mk A50
  clear A50
  obtain rfl:=Option.some.inj H
  go_enter Try.func6,Try.ntmps6
  go_wp2_with (first|((with_reducible refine gate_dst (N:=2) rfl ?_);refine box_event ?hg (N:=2) ?hd (cs:=#[.int .i64 a0_0,.int .i64 a0_1,.slice A0_2 l0_2.length c0_2,.int .i64 a0_3,.int .u32 a0_4]) (t:=25) ?hr ?_;(case hd=>rfl);(case hg=>rfl);(case hr=>first|(go_simp;done)|(go_simp;rfl));intro gb250 hg w6 hbox hb;have n0_:=Aside0.mk (below_step (by repeat (first|(with_reducible first|exact HB.out|apply below_alloc|apply pw_below_drewN|apply below_drew1)|exact HB.out)) hb);have n1_:=Aside0.mk (hbox);have n2_:=Aside0.mk ((by rw [hg];exact (below_size (by repeat (first|(with_reducible first|exact HB.out|apply below_alloc|apply pw_below_drewN|apply below_drew1)|exact HB.out))) : w.heap.size ≤ gb250));have n3_:=Aside0.mk ((by rw [hg];exact (below_size (by repeat (first|(with_reducible first|exact HB.out|apply below_alloc|apply pw_below_drewN|apply below_drew1)|exact HB.out))) : w.heap.size ≤ gb250));clear HB;have HB:=n0_;have BK250:=n1_;have GW250:=n2_;have GE250:=n3_;clear n0_ n1_ n2_ n3_;clear hb hbox hg;have hcz7_0 : w6.cell? ⟨gb250,0,none⟩ = some (.int .i64 a0_0):=(blk_cell BK250.out 0).trans rfl;have hcz7_1 : w6.cell? ⟨gb250,1,none⟩ = some (.int .i64 a0_1):=(blk_cell BK250.out 1).trans rfl;have hcz7_2 : w6.cell? ⟨gb250,2,none⟩ = some (.slice A0_2 l0_2.length c0_2):=(blk_cell BK250.out 2).trans rfl;have hcz7_3 : w6.cell? ⟨gb250,3,none⟩ = some (.int .i64 a0_3):=(blk_cell BK250.out 3).trans rfl;have hcz7_4 : w6.cell? ⟨gb250,4,none⟩ = some (.int .u32 a0_4):=(blk_cell BK250.out 4).trans rfl;have hfz7_0:=blk_frozen BK250.out 0;have hfz7_1:=blk_frozen BK250.out 1;have hfz7_2:=blk_frozen BK250.out 2;have hfz7_3:=blk_frozen BK250.out 3;have hfz7_4:=blk_frozen BK250.out 4)|((with_reducible refine gate_callee (f:=10) rfl ?_);refine goesL_ (some 6) rfl rfl Try.func10 (by kernel_rfl) rfl #[.agg #[.int .i64 a0_0,.int .i64 a0_1,.slice A0_2 l0_2.length c0_2,.int .i64 a0_3,.int .u32 a0_4]] rfl (by (try simp only [List.map_toArray,List.map_cons,List.map_nil]);first|done|rfl|(simp only [List.length_drop,List.length_take];rfl)) ?_;(with_reducible refine (coppicerref_MachineCheck.calls k a0_0 a0_1 _ _ l0_2 a0_3 a0_4 t251 _ ?side1 ?side2 A3.out).mono ?_);(case side1=>repeat (first|exact (Kd.C_below HR0_2.out HB.out)|(with_reducible refine Kd.C_alloc ?_ _)|(with_reducible refine Kd.C_drewN ?_ _)|(with_reducible refine Kd.C_drew ?_)));(case side2=>exact HC0_2.out);rintro e w8 ⟨rfl,hb⟩;refine ⟨_,rfl,?_⟩;have n0_:=Aside0.mk (blk_below (g:=gb250) (o:=.cells #[.int .i64 a0_0,.int .i64 a0_1,.slice A0_2 l0_2.length c0_2,.int .i64 a0_3,.int .u32 a0_4] 25 (0,0)) (by (with_reducible repeat (first|refine blk_drewN ?_ _|refine blk_drew ?_|refine blk_alloc ?_ _));exact BK250.out) hb);have n1_:=Aside0.mk (below_step (by repeat (first|(with_reducible first|exact HB.out|apply below_alloc|apply pw_below_drewN|apply below_drew1|refine below_set ?_ GE250.out)|exact HB.out)) hb);clear BK250;clear HB;have BK250:=n0_;have HB:=n1_;clear n0_ n1_;(try clear hb);(try clear hb2);(try clear hk);(try clear hi);have hcz9_0 : w8.cell? ⟨gb250,0,none⟩ = some (.int .i64 a0_0):=(blk_cell BK250.out 0).trans rfl;have hcz9_1 : w8.cell? ⟨gb250,1,none⟩ = some (.int .i64 a0_1):=(blk_cell BK250.out 1).trans rfl;have hcz9_2 : w8.cell? ⟨gb250,2,none⟩ = some (.slice A0_2 l0_2.length c0_2):=(blk_cell BK250.out 2).trans rfl;have hcz9_3 : w8.cell? ⟨gb250,3,none⟩ = some (.int .i64 a0_3):=(blk_cell BK250.out 3).trans rfl;have hcz9_4 : w8.cell? ⟨gb250,4,none⟩ = some (.int .u32 a0_4):=(blk_cell BK250.out 4).trans rfl;have hfz9_0:=blk_frozen BK250.out 0;have hfz9_1:=blk_frozen BK250.out 1;have hfz9_2:=blk_frozen BK250.out 2;have hfz9_3:=blk_frozen BK250.out 3;have hfz9_4:=blk_frozen BK250.out 4)|(go_at_call 19;(with_reducible refine (coppicerref_WordCheck.calls k a0_1 _ _ l1 t252 _ ?side1 ?side2 A5.out).mono ?_);(case side1=>repeat (first|exact (Kd.C_below HR1.out HB.out)|(with_reducible refine Kd.C_alloc ?_ _)|(with_reducible refine Kd.C_drewN ?_ _)|(with_reducible refine Kd.C_drew ?_)));(case side2=>exact HC1.out);rintro e w' ⟨rfl,⟨nd,rfl⟩⟩))
  go_ret
  exact ⟨by first|rfl|(simp [errW_none,errW_some] <;> rfl)|(simp [*,errW_none,errW_some] <;> rfl),by repeat (first|(with_reducible first|exact HB.out|apply below_alloc|apply pw_below_drewN|apply below_drew1|refine below_set ?_ GE250.out)|exact HB.out)⟩
 ·rw [if_neg c4] at H
  have c4b0 : (t251 == 0) = false:=beq_eq_false_iff_ne.mpr c4
  have c4b1 : (t251 != 0) = true:=bne_iff_ne.mpr c4
  obtain rfl:=Option.some.inj H
  go_enter Try.func6,Try.ntmps6
  go_wp2_with (first|((with_reducible refine gate_dst (N:=2) rfl ?_);refine box_event ?hg (N:=2) ?hd (cs:=#[.int .i64 a0_0,.int .i64 a0_1,.slice A0_2 l0_2.length c0_2,.int .i64 a0_3,.int .u32 a0_4]) (t:=25) ?hr ?_;(case hd=>rfl);(case hg=>rfl);(case hr=>first|(go_simp;done)|(go_simp;rfl));intro gb250 hg w10 hbox hb;have n0_:=Aside0.mk (below_step (by repeat (first|(with_reducible first|exact HB.out|apply below_alloc|apply pw_below_drewN|apply below_drew1)|exact HB.out)) hb);have n1_:=Aside0.mk (hbox);have n2_:=Aside0.mk ((by rw [hg];exact (below_size (by repeat (first|(with_reducible first|exact HB.out|apply below_alloc|apply pw_below_drewN|apply below_drew1)|exact HB.out))) : w.heap.size ≤ gb250));have n3_:=Aside0.mk ((by rw [hg];exact (below_size (by repeat (first|(with_reducible first|exact HB.out|apply below_alloc|apply pw_below_drewN|apply below_drew1)|exact HB.out))) : w.heap.size ≤ gb250));clear HB;have HB:=n0_;have BK250:=n1_;have GW250:=n2_;have GE250:=n3_;clear n0_ n1_ n2_ n3_;clear hb hbox hg;have hcz11_0 : w10.cell? ⟨gb250,0,none⟩ = some (.int .i64 a0_0):=(blk_cell BK250.out 0).trans rfl;have hcz11_1 : w10.cell? ⟨gb250,1,none⟩ = some (.int .i64 a0_1):=(blk_cell BK250.out 1).trans rfl;have hcz11_2 : w10.cell? ⟨gb250,2,none⟩ = some (.slice A0_2 l0_2.length c0_2):=(blk_cell BK250.out 2).trans rfl;have hcz11_3 : w10.cell? ⟨gb250,3,none⟩ = some (.int .i64 a0_3):=(blk_cell BK250.out 3).trans rfl;have hcz11_4 : w10.cell? ⟨gb250,4,none⟩ = some (.int .u32 a0_4):=(blk_cell BK250.out 4).trans rfl;have hfz11_0:=blk_frozen BK250.out 0;have hfz11_1:=blk_frozen BK250.out 1;have hfz11_2:=blk_frozen BK250.out 2;have hfz11_3:=blk_frozen BK250.out 3;have hfz11_4:=blk_frozen BK250.out 4)|((with_reducible refine gate_callee (f:=10) rfl ?_);refine goesL_ (some 6) rfl rfl Try.func10 (by kernel_rfl) rfl #[.agg #[.int .i64 a0_0,.int .i64 a0_1,.slice A0_2 l0_2.length c0_2,.int .i64 a0_3,.int .u32 a0_4]] rfl (by (try simp only [List.map_toArray,List.map_cons,List.map_nil]);first|done|rfl|(simp only [List.length_drop,List.length_take];rfl)) ?_;(with_reducible refine (coppicerref_MachineCheck.calls k a0_0 a0_1 _ _ l0_2 a0_3 a0_4 t251 _ ?side1 ?side2 A3.out).mono ?_);(case side1=>repeat (first|exact (Kd.C_below HR0_2.out HB.out)|(with_reducible refine Kd.C_alloc ?_ _)|(with_reducible refine Kd.C_drewN ?_ _)|(with_reducible refine Kd.C_drew ?_)));(case side2=>exact HC0_2.out);rintro e w12 ⟨rfl,hb⟩;refine ⟨_,rfl,?_⟩;have n0_:=Aside0.mk (blk_below (g:=gb250) (o:=.cells #[.int .i64 a0_0,.int .i64 a0_1,.slice A0_2 l0_2.length c0_2,.int .i64 a0_3,.int .u32 a0_4] 25 (0,0)) (by (with_reducible repeat (first|refine blk_drewN ?_ _|refine blk_drew ?_|refine blk_alloc ?_ _));exact BK250.out) hb);have n1_:=Aside0.mk (below_step (by repeat (first|(with_reducible first|exact HB.out|apply below_alloc|apply pw_below_drewN|apply below_drew1|refine below_set ?_ GE250.out)|exact HB.out)) hb);clear BK250;clear HB;have BK250:=n0_;have HB:=n1_;clear n0_ n1_;(try clear hb);(try clear hb2);(try clear hk);(try clear hi)))
  go_ret
  exact ⟨by first|rfl|(simp [errW_none,errW_some] <;> rfl)|(simp [*,errW_none,errW_some] <;> rfl),by repeat (first|(with_reducible first|exact HB.out|apply below_alloc|apply pw_below_drewN|apply below_drew1|refine below_set ?_ GE250.out)|exact HB.out)⟩
/-! ### kinds_move_39: function 39 -/
def kinds_move_39.l0 : Nat → List (S44) → Int → Int → Int → Int → Int → Int → Int → Int → Int → Option (Int)
 | 0,_,_,_,_,_,_,_,_,_,_=>none
 | k + 1,x0,x7,x8,x254000,x254001,x254002,x254003,x254004,x254005,x254006=>if x8 < x7 then (if 0 ≤ x8 then (if x8 < (x0.length : Int) then (if (x254000 == ((rd_T44 x0 x8).f0) && (x254001 == ((rd_T44 x0 x8).f1) && (x254002 == ((rd_T44 x0 x8).f2) && (x254003 == ((rd_T44 x0 x8).f3) && (x254004 == ((rd_T44 x0 x8).f4) && (x254005 == ((rd_T44 x0 x8).f5) && (x254006 == ((rd_T44 x0 x8).f6)))))))) = true then (some x8) else (kinds_move_39.l0 k x0 x7 (wrap64 (x8 + 1)) x254000 x254001 x254002 x254003 x254004 x254005 x254006)) else (none)) else (none)) else (some (-1))
def kinds_move_39.f (k : Nat) (l0 : List (S44)) (a1_0 : Int) (a1_1 : Int) (a1_2 : Int) (a1_3 : Int) (a1_4 : Int) (a1_5 : Int) (a1_6 : Int) : Option (Int):=kinds_move_39.l0 k l0 (l0.length : Int) 0 a1_0 a1_1 a1_2 a1_3 a1_4 a1_5 a1_6
theorem kinds_move_39.mono_l : ∀ k,(∀ y0 y1 y2 y3 y4 y5 y6 y7 y8 y9,LeO (kinds_move_39.l0 k y0 y1 y2 y3 y4 y5 y6 y7 y8 y9) (kinds_move_39.l0 (k + 1) y0 y1 y2 y3 y4 y5 y6 y7 y8 y9))
 | 0=>fun _ _ _ _ _ _ _ _ _ _ r h=>by simp [kinds_move_39.l0] at h
 | k + 1=>by
  have ih0:=kinds_move_39.mono_l k
  ·intro y0 y1 y2 y3 y4 y5 y6 y7 y8 y9
   unfold kinds_move_39.l0
   repeat' first
   | (with_reducible exact ih0 _ _ _ _ _ _ _ _ _ _)
   | (with_reducible exact LeO.refl _)
   | (with_reducible exact LeO.none _)
   | (with_reducible refine LeO.ite ?_ ?_)
   | (with_reducible refine LeO.bind ?_ (fun _=>?_))
   | exact ih0 _ _ _ _ _ _ _ _ _ _
   | exact LeO.none _
   | refine LeO.ite ?_ ?_
   | refine LeO.bind ?_ (fun _=>?_)
theorem kinds_move_39.mono : ∀ a0 a1 a2 a3 a4 a5 a6 a7 k,LeO (kinds_move_39.f k a0 a1 a2 a3 a4 a5 a6 a7) (kinds_move_39.f (k + 1) a0 a1 a2 a3 a4 a5 a6 a7):=by
 intro a0 a1 a2 a3 a4 a5 a6 a7 k
 have ih0:=kinds_move_39.mono_l k
 unfold kinds_move_39.f
 repeat' first
   | (with_reducible exact ih0 _ _ _ _ _ _ _ _ _ _)
   | (with_reducible exact LeO.refl _)
   | (with_reducible exact LeO.none _)
   | (with_reducible refine LeO.ite ?_ ?_)
   | (with_reducible refine LeO.bind ?_ (fun _=>?_))
   | exact ih0 _ _ _ _ _ _ _ _ _ _
   | exact LeO.none _
   | refine LeO.ite ?_ ?_
   | refine LeO.bind ?_ (fun _=>?_)
set_option maxHeartbeats 8000000 in
set_option maxRecDepth 100000 in
theorem kinds_move_39.calls (k : Nat) (A0 : Option Addr) (c0 : Nat) (l0 : List (S44)) (a1_0 : Int) (a1_1 : Int) (a1_2 : Int) (a1_3 : Int) (a1_4 : Int) (a1_5 : Int) (a1_6 : Int) (r : Int) (w : World) (hr0 : Kd.C k44 w A0 l0.length l0) (hc0 : l0.length ≤ c0) (h : kinds_move_39.f k l0 a1_0 a1_1 a1_2 a1_3 a1_4 a1_5 a1_6 = some r) :
  Calls Try.prog 39 #[.slice A0 l0.length c0,.agg #[.int .i64 a1_0,.int .i64 a1_1,.int .i64 a1_2,.int .i64 a1_3,.int .i64 a1_4,.int .i64 a1_5,.int .i64 a1_6]] w fun e w'=>e = .returned (.int .i64 r) ∧ Below w.heap.size w w':=by
 have hu44:=Try.underlying44
 have HR0:=Aside0.mk hr0
 have HC0:=Aside0.mk hc0
 clear hr0 hc0
 have HB:=Aside0.mk (Below.refl w.heap.size w)
 have H : (kinds_move_39.l0 k l0 (l0.length : Int) 0 a1_0 a1_1 a1_2 a1_3 a1_4 a1_5 a1_6) = some r:=h
 clear h
 have H':=Aside0.mk H
 clear H
 go_enter Try.func39,Try.ntmps39
 go_wp2_with (first|((with_reducible refine gate_dst (N:=3) rfl ?_);refine box_event ?hg (N:=3) ?hd (cs:=#[.int .i64 a1_0,.int .i64 a1_1,.int .i64 a1_2,.int .i64 a1_3,.int .i64 a1_4,.int .i64 a1_5,.int .i64 a1_6]) (t:=44) ?hr ?_;(case hd=>rfl);(case hg=>rfl);(case hr=>first|(go_simp;done)|(go_simp;rfl));intro gb253 hg w3 hbox hb;have n0_:=Aside0.mk (below_step (by repeat (first|(with_reducible first|exact HB.out|apply below_alloc|apply pw_below_drewN|apply below_drew1)|exact HB.out)) hb);have n1_:=Aside0.mk (hbox);have n2_:=Aside0.mk ((by rw [hg];exact (below_size (by repeat (first|(with_reducible first|exact HB.out|apply below_alloc|apply pw_below_drewN|apply below_drew1)|exact HB.out))) : w.heap.size ≤ gb253));have n3_:=Aside0.mk ((by rw [hg];exact (below_size (by repeat (first|(with_reducible first|exact HB.out|apply below_alloc|apply pw_below_drewN|apply below_drew1)|exact HB.out))) : w.heap.size ≤ gb253));clear HB;have HB:=n0_;have BK253:=n1_;have GW253:=n2_;have GE253:=n3_;clear n0_ n1_ n2_ n3_;clear hb hbox hg))
 repeat (go_quiet (first|((with_reducible refine gate_dst (N:=3) rfl ?_);refine box_event ?hg (N:=3) ?hd (cs:=#[.int .i64 a1_0,.int .i64 a1_1,.int .i64 a1_2,.int .i64 a1_3,.int .i64 a1_4,.int .i64 a1_5,.int .i64 a1_6]) (t:=44) ?hr ?_;(case hd=>rfl);(case hg=>rfl);(case hr=>first|(go_simp;done)|(go_simp;rfl));intro gb253 hg w3 hbox hb;have n0_:=Aside0.mk (below_step (by repeat (first|(with_reducible first|exact HB.out|apply below_alloc|apply pw_below_drewN|apply below_drew1)|exact HB.out)) hb);have n1_:=Aside0.mk (hbox);have n2_:=Aside0.mk ((by rw [hg];exact (below_size (by repeat (first|(with_reducible first|exact HB.out|apply below_alloc|apply pw_below_drewN|apply below_drew1)|exact HB.out))) : w.heap.size ≤ gb253));have n3_:=Aside0.mk ((by rw [hg];exact (below_size (by repeat (first|(with_reducible first|exact HB.out|apply below_alloc|apply pw_below_drewN|apply below_drew1)|exact HB.out))) : w.heap.size ≤ gb253));clear HB;have HB:=n0_;have BK253:=n1_;have GW253:=n2_;have GE253:=n3_;clear n0_ n1_ n2_ n3_;clear hb hbox hg));try go_wp2_with (first|((with_reducible refine gate_dst (N:=3) rfl ?_);refine box_event ?hg (N:=3) ?hd (cs:=#[.int .i64 a1_0,.int .i64 a1_1,.int .i64 a1_2,.int .i64 a1_3,.int .i64 a1_4,.int .i64 a1_5,.int .i64 a1_6]) (t:=44) ?hr ?_;(case hd=>rfl);(case hg=>rfl);(case hr=>first|(go_simp;done)|(go_simp;rfl));intro gb253 hg w3 hbox hb;have n0_:=Aside0.mk (below_step (by repeat (first|(with_reducible first|exact HB.out|apply below_alloc|apply pw_below_drewN|apply below_drew1)|exact HB.out)) hb);have n1_:=Aside0.mk (hbox);have n2_:=Aside0.mk ((by rw [hg];exact (below_size (by repeat (first|(with_reducible first|exact HB.out|apply below_alloc|apply pw_below_drewN|apply below_drew1)|exact HB.out))) : w.heap.size ≤ gb253));have n3_:=Aside0.mk ((by rw [hg];exact (below_size (by repeat (first|(with_reducible first|exact HB.out|apply below_alloc|apply pw_below_drewN|apply below_drew1)|exact HB.out))) : w.heap.size ≤ gb253));clear HB;have HB:=n0_;have BK253:=n1_;have GW253:=n2_;have GE253:=n3_;clear n0_ n1_ n2_ n3_;clear hb hbox hg)))
 go_loopg [8] k (fun kq v8 w'=>∃ (x8_1 : Int),v8 = .int .i64 x8_1 ∧ Aside0 (kinds_move_39.l0 kq l0 (l0.length : Int) x8_1 a1_0 a1_1 a1_2 a1_3 a1_4 a1_5 a1_6 = some r) ∧ Aside0 (kq ≤ k) ∧ Aside0 (w'.heap[gb253]? = some (.cells #[.int .i64 a1_0,.int .i64 a1_1,.int .i64 a1_2,.int .i64 a1_3,.int .i64 a1_4,.int .i64 a1_5,.int .i64 a1_6] 44 (0,0))) ∧ Aside0 (Below w.heap.size w w'))
 case atStart=>exact ⟨(0),(by first|rfl|(simp;done)|(simp [*];done)),H',⟨Nat.le_refl _⟩,⟨by (with_reducible repeat (first|refine blk_drewN ?_ _|refine blk_drew ?_|refine blk_alloc ?_ _));exact BK253.out⟩,⟨by repeat (first|(with_reducible first|exact HB.out|apply below_alloc|apply pw_below_drewN|apply below_drew1|refine below_set ?_ GE253.out)|exact HB.out)⟩⟩
 case round =>
  clear H'
  try clear p2
  try clear c3
  obtain ⟨x8_1,rfl,HA,HK1,BK253,HB⟩:=hrel
  cases gk with
  | zero=>exact absurd HA.out (by simp [kinds_move_39.l0])
  | succ k1 =>
   have H:=HA.out
   clear HA
   simp only [kinds_move_39.l0] at H
   by_cases c4 : x8_1 < (l0.length : Int)
   ·rw [if_pos c4] at H
    have c4b0 : decide (x8_1 < (l0.length : Int)) = true:=decide_eq_true c4
    clear c4
    by_cases c5 : 0 ≤ x8_1
    ·rw [if_pos c5] at H
     have c5b0 : decide (0 ≤ x8_1) = true:=decide_eq_true c5
     clear c5
     by_cases c6 : x8_1 < (l0.length : Int)
     ·rw [if_pos c6] at H
      have c6b0 : decide (x8_1 < (l0.length : Int)) = true:=decide_eq_true c6
      clear c6
      by_cases c7 : (a1_0 == ((rd_T44 l0 x8_1).f0) && (a1_1 == ((rd_T44 l0 x8_1).f1) && (a1_2 == ((rd_T44 l0 x8_1).f2) && (a1_3 == ((rd_T44 l0 x8_1).f3) && (a1_4 == ((rd_T44 l0 x8_1).f4) && (a1_5 == ((rd_T44 l0 x8_1).f5) && (a1_6 == ((rd_T44 l0 x8_1).f6)))))))) = true
      ·rw [if_pos c7] at H
       have c7b0 : (a1_0 == ((rd_T44 l0 x8_1).f0) && (a1_1 == ((rd_T44 l0 x8_1).f1) && (a1_2 == ((rd_T44 l0 x8_1).f2) && (a1_3 == ((rd_T44 l0 x8_1).f3) && (a1_4 == ((rd_T44 l0 x8_1).f4) && (a1_5 == ((rd_T44 l0 x8_1).f5) && (a1_6 == ((rd_T44 l0 x8_1).f6)))))))) = true:=c7
       (try (have c7b1 : decide (a1_0 = ((rd_T44 l0 x8_1).f0) && (a1_1 == ((rd_T44 l0 x8_1).f1) && (a1_2 == ((rd_T44 l0 x8_1).f2) && (a1_3 == ((rd_T44 l0 x8_1).f3) && (a1_4 == ((rd_T44 l0 x8_1).f4) && (a1_5 == ((rd_T44 l0 x8_1).f5) && (a1_6 == ((rd_T44 l0 x8_1).f6)))))))) = true:=by simpa using c7))
       (try (have c7b2 : (a1_0 == ((rd_T44 l0 x8_1).f0) && (a1_1 == ((rd_T44 l0 x8_1).f1) && (a1_2 == ((rd_T44 l0 x8_1).f2) && (a1_3 == ((rd_T44 l0 x8_1).f3) && (a1_4 == ((rd_T44 l0 x8_1).f4) && (a1_5 == ((rd_T44 l0 x8_1).f5) && (a1_6 == ((rd_T44 l0 x8_1).f6)))))))) = true:=by simpa using c7))
       clear c7
       obtain rfl:=Option.some.inj H
       have hcz8_0 : wr.cell? ⟨gb253,0,none⟩ = some (.int .i64 a1_0):=(blk_cell BK253.out 0).trans rfl
       have hcz8_1 : wr.cell? ⟨gb253,1,none⟩ = some (.int .i64 a1_1):=(blk_cell BK253.out 1).trans rfl
       have hcz8_2 : wr.cell? ⟨gb253,2,none⟩ = some (.int .i64 a1_2):=(blk_cell BK253.out 2).trans rfl
       have hcz8_3 : wr.cell? ⟨gb253,3,none⟩ = some (.int .i64 a1_3):=(blk_cell BK253.out 3).trans rfl
       have hcz8_4 : wr.cell? ⟨gb253,4,none⟩ = some (.int .i64 a1_4):=(blk_cell BK253.out 4).trans rfl
       have hcz8_5 : wr.cell? ⟨gb253,5,none⟩ = some (.int .i64 a1_5):=(blk_cell BK253.out 5).trans rfl
       have hcz8_6 : wr.cell? ⟨gb253,6,none⟩ = some (.int .i64 a1_6):=(blk_cell BK253.out 6).trans rfl
       have hfz8_0:=blk_frozen BK253.out 0
       have hfz8_1:=blk_frozen BK253.out 1
       have hfz8_2:=blk_frozen BK253.out 2
       have hfz8_3:=blk_frozen BK253.out 3
       have hfz8_4:=blk_frozen BK253.out 4
       have hfz8_5:=blk_frozen BK253.out 5
       have hfz8_6:=blk_frozen BK253.out 6
       have p254 : 0 ≤ (x8_1 : Int):=of_decide_eq_true (by first|(with_reducible assumption)|assumption)
       have q254 : x8_1 < (l0.length : Int):=of_decide_eq_true (by first|(with_reducible assumption)|assumption)
       obtain ⟨ad254,e254,hx254_0,hx254_1,hx254_2,hx254_3,hx254_4,hx254_5,hx254_6⟩:=at_T44 HR0.out x8_1 p254 q254
       cases e254
       replace hx254_0:=(HB.out.cell (World.block_lt_of_cell? w _ hx254_0)).trans hx254_0
       replace hx254_1:=(HB.out.cell (World.block_lt_of_cell? w _ hx254_1)).trans hx254_1
       replace hx254_2:=(HB.out.cell (World.block_lt_of_cell? w _ hx254_2)).trans hx254_2
       replace hx254_3:=(HB.out.cell (World.block_lt_of_cell? w _ hx254_3)).trans hx254_3
       replace hx254_4:=(HB.out.cell (World.block_lt_of_cell? w _ hx254_4)).trans hx254_4
       replace hx254_5:=(HB.out.cell (World.block_lt_of_cell? w _ hx254_5)).trans hx254_5
       replace hx254_6:=(HB.out.cell (World.block_lt_of_cell? w _ hx254_6)).trans hx254_6
       replace p254:=eq_true p254
       replace q254:=eq_true q254
       go_wp2
       repeat (go_quiet (fail);try go_wp2)
       go_ret
       exact ⟨by first|rfl|(simp [errW_none,errW_some] <;> rfl)|(simp [*,errW_none,errW_some] <;> rfl),by repeat (first|(with_reducible first|exact HB.out|apply below_alloc|apply pw_below_drewN|apply below_drew1|refine below_set ?_ GE253.out)|exact HB.out)⟩
      ·rw [if_neg c7] at H
       have c7b0 : (a1_0 == ((rd_T44 l0 x8_1).f0) && (a1_1 == ((rd_T44 l0 x8_1).f1) && (a1_2 == ((rd_T44 l0 x8_1).f2) && (a1_3 == ((rd_T44 l0 x8_1).f3) && (a1_4 == ((rd_T44 l0 x8_1).f4) && (a1_5 == ((rd_T44 l0 x8_1).f5) && (a1_6 == ((rd_T44 l0 x8_1).f6)))))))) = false:=by simpa using c7
       (try (have c7b1 : decide (a1_0 = ((rd_T44 l0 x8_1).f0) && (a1_1 == ((rd_T44 l0 x8_1).f1) && (a1_2 == ((rd_T44 l0 x8_1).f2) && (a1_3 == ((rd_T44 l0 x8_1).f3) && (a1_4 == ((rd_T44 l0 x8_1).f4) && (a1_5 == ((rd_T44 l0 x8_1).f5) && (a1_6 == ((rd_T44 l0 x8_1).f6)))))))) = false:=by simpa using c7))
       (try (have c7b2 : (a1_0 == ((rd_T44 l0 x8_1).f0) && (a1_1 == ((rd_T44 l0 x8_1).f1) && (a1_2 == ((rd_T44 l0 x8_1).f2) && (a1_3 == ((rd_T44 l0 x8_1).f3) && (a1_4 == ((rd_T44 l0 x8_1).f4) && (a1_5 == ((rd_T44 l0 x8_1).f5) && (a1_6 == ((rd_T44 l0 x8_1).f6)))))))) = false:=by simpa using c7))
       (try (have c7b3 : ¬ (a1_0 = ((rd_T44 l0 x8_1).f0) && (a1_1 == ((rd_T44 l0 x8_1).f1) && (a1_2 == ((rd_T44 l0 x8_1).f2) && (a1_3 == ((rd_T44 l0 x8_1).f3) && (a1_4 == ((rd_T44 l0 x8_1).f4) && (a1_5 == ((rd_T44 l0 x8_1).f5) && (a1_6 == ((rd_T44 l0 x8_1).f6)))))))):=by simpa using c7))
       clear c7
       have H':=Aside0.mk H
       clear H
       have hcz9_0 : wr.cell? ⟨gb253,0,none⟩ = some (.int .i64 a1_0):=(blk_cell BK253.out 0).trans rfl
       have hcz9_1 : wr.cell? ⟨gb253,1,none⟩ = some (.int .i64 a1_1):=(blk_cell BK253.out 1).trans rfl
       have hcz9_2 : wr.cell? ⟨gb253,2,none⟩ = some (.int .i64 a1_2):=(blk_cell BK253.out 2).trans rfl
       have hcz9_3 : wr.cell? ⟨gb253,3,none⟩ = some (.int .i64 a1_3):=(blk_cell BK253.out 3).trans rfl
       have hcz9_4 : wr.cell? ⟨gb253,4,none⟩ = some (.int .i64 a1_4):=(blk_cell BK253.out 4).trans rfl
       have hcz9_5 : wr.cell? ⟨gb253,5,none⟩ = some (.int .i64 a1_5):=(blk_cell BK253.out 5).trans rfl
       have hcz9_6 : wr.cell? ⟨gb253,6,none⟩ = some (.int .i64 a1_6):=(blk_cell BK253.out 6).trans rfl
       have hfz9_0:=blk_frozen BK253.out 0
       have hfz9_1:=blk_frozen BK253.out 1
       have hfz9_2:=blk_frozen BK253.out 2
       have hfz9_3:=blk_frozen BK253.out 3
       have hfz9_4:=blk_frozen BK253.out 4
       have hfz9_5:=blk_frozen BK253.out 5
       have hfz9_6:=blk_frozen BK253.out 6
       have p254 : 0 ≤ (x8_1 : Int):=of_decide_eq_true (by first|(with_reducible assumption)|assumption)
       have q254 : x8_1 < (l0.length : Int):=of_decide_eq_true (by first|(with_reducible assumption)|assumption)
       obtain ⟨ad254,e254,hx254_0,hx254_1,hx254_2,hx254_3,hx254_4,hx254_5,hx254_6⟩:=at_T44 HR0.out x8_1 p254 q254
       cases e254
       replace hx254_0:=(HB.out.cell (World.block_lt_of_cell? w _ hx254_0)).trans hx254_0
       replace hx254_1:=(HB.out.cell (World.block_lt_of_cell? w _ hx254_1)).trans hx254_1
       replace hx254_2:=(HB.out.cell (World.block_lt_of_cell? w _ hx254_2)).trans hx254_2
       replace hx254_3:=(HB.out.cell (World.block_lt_of_cell? w _ hx254_3)).trans hx254_3
       replace hx254_4:=(HB.out.cell (World.block_lt_of_cell? w _ hx254_4)).trans hx254_4
       replace hx254_5:=(HB.out.cell (World.block_lt_of_cell? w _ hx254_5)).trans hx254_5
       replace hx254_6:=(HB.out.cell (World.block_lt_of_cell? w _ hx254_6)).trans hx254_6
       replace p254:=eq_true p254
       replace q254:=eq_true q254
       go_wp2
       repeat (go_quiet (fail);try go_wp2)
       go_roundg k1
       case measure=>have:=HK1.out;omega
       case rel=>exact ⟨(wrap64 (x8_1 + 1)),(by first|rfl|(simp;done)|(simp [*];done)),H',⟨by have:=HK1.out;omega⟩,⟨by (with_reducible repeat (first|refine blk_drewN ?_ _|refine blk_drew ?_|refine blk_alloc ?_ _));exact BK253.out⟩,⟨by repeat (first|(with_reducible first|exact HB.out|apply below_alloc|apply pw_below_drewN|apply below_drew1|refine below_set ?_ GE253.out)|exact HB.out)⟩⟩
     ·rw [if_neg c6] at H
      exact absurd H (by simp)
    ·rw [if_neg c5] at H
     exact absurd H (by simp)
   ·rw [if_neg c4] at H
    have c4b0 : decide (x8_1 < (l0.length : Int)) = false:=decide_eq_false c4
    clear c4
    obtain rfl:=Option.some.inj H
    go_wp2
    repeat (go_quiet (fail);try go_wp2)
    go_ret
    exact ⟨by first|rfl|(simp [errW_none,errW_some] <;> rfl)|(simp [*,errW_none,errW_some] <;> rfl),by repeat (first|(with_reducible first|exact HB.out|apply below_alloc|apply pw_below_drewN|apply below_drew1|refine below_set ?_ GE253.out)|exact HB.out)⟩
end Go.Proofs.Yteppbihlpicjpaa.GM
