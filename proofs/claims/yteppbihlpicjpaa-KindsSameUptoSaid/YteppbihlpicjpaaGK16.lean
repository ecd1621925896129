-- Written by ext.py, a program of this session.
import Derived.Test.YteppbihlpicjpaaGK0
import Derived.Test.YteppbihlpicjpaaGK12
import Derived.Test.YteppbihlpicjpaaGK14
import Derived.Test.YteppbihlpicjpaaGK15
namespace Go.Proofs.Yteppbihlpicjpaa.GK
open Go.RowKit Go.Proofs.YteppbihlpicjpaaW.PrintWords Go.Proofs.YteppbihlpicjpaaW.PrintLast Go.Proofs.YteppbihlpicjpaaW.PrintMore
attribute [local go_sem] max2_int min2_int max_two min_two max_three min_three max_four min_four cellIs_set   -- for this text's walks alone
set_option linter.unusedVariables false
set_option linter.unusedSimpArgs false
/-! ### coppicerkeep_KindsSame: function 3 -/
mutual
def coppicerkeep_KindsSame.j0 : Nat → List Int → List Int → List Int → List Int → Bool → Int → Bool → Int → Int → List (List Int) → Int → Int → Option (Bool)
 | 0,_,_,_,_,_,_,_,_,_,_,_,_=>none
 | k + 1,x1,x2,x3,x4,x11,x12,x41,x260000,x260001,x260002,x260003,x260004=>if x41 = true then (some (x12 != 0)) else ((kinds_Same.f k x260000 x260001 x260002 x260003 x260004 x1 x1).bind fun bt264=>((kinds_Same.f k x260000 x260001 x260002 x260003 x260004 x2 x1).bind fun bt266=>(if x12 = 0 then (if bt264.2 = 0 then (if bt266.2 = 0 then (if bt264.1 = true then (coppicerkeep_KindsSame.j1 k x1 x2 x3 x4 x11 (bt266.1 != x11) x260000 x260001 x260002 x260003 x260004) else (coppicerkeep_KindsSame.j1 k x1 x2 x3 x4 x11 true x260000 x260001 x260002 x260003 x260004)) else (coppicerkeep_KindsSame.j1 k x1 x2 x3 x4 x11 true x260000 x260001 x260002 x260003 x260004)) else (coppicerkeep_KindsSame.j1 k x1 x2 x3 x4 x11 true x260000 x260001 x260002 x260003 x260004)) else (coppicerkeep_KindsSame.j1 k x1 x2 x3 x4 x11 true x260000 x260001 x260002 x260003 x260004))))
def coppicerkeep_KindsSame.j1 : Nat → List Int → List Int → List Int → List Int → Bool → Bool → Int → Int → List (List Int) → Int → Int → Option (Bool)
 | 0,_,_,_,_,_,_,_,_,_,_,_=>none
 | k + 1,x1,x2,x3,x4,x11,x76,x260000,x260001,x260002,x260003,x260004=>if x76 = true then (some false) else ((some (([] : List Int) : List Int)).bind fun y268=>(if y268.length + x3.length < 17592186044416 then ((some (y268 ++ x3 : List Int)).bind fun y271=>(if y271.length + x1.length < 17592186044416 then ((some (y271 ++ x1 : List Int)).bind fun y274=>(if y274.length + x4.length < 17592186044416 then ((some (y274 ++ x4 : List Int)).bind fun y277=>((some (([] : List Int) : List Int)).bind fun y280=>(if y280.length + x3.length < 17592186044416 then ((some (y280 ++ x3 : List Int)).bind fun y283=>(if y283.length + x2.length < 17592186044416 then ((some (y283 ++ x2 : List Int)).bind fun y286=>(if y286.length + x4.length < 17592186044416 then ((some (y286 ++ x4 : List Int)).bind fun y289=>(if x11 = true then ((coppicerkeep_good.f k x260000 x260001 x260002 x260003 x260004 y277).bind fun t292=>(if t292 = true then ((coppicerkeep_good.f k x260000 x260001 x260002 x260003 x260004 y289).bind fun t293=>(coppicerkeep_KindsSame.j2 k y277 y289 (!t293) x260000 x260001 x260002 x260003 x260004)) else (coppicerkeep_KindsSame.j2 k y277 y289 true x260000 x260001 x260002 x260003 x260004))) else (coppicerkeep_KindsSame.j2 k y277 y289 true x260000 x260001 x260002 x260003 x260004))) else (none))) else (none))) else (none)))) else (none))) else (none))) else (none)))
def coppicerkeep_KindsSame.j2 : Nat → List Int → List Int → Bool → Int → Int → List (List Int) → Int → Int → Option (Bool)
 | 0,_,_,_,_,_,_,_,_=>none
 | k + 1,x17,x18,x104,x260000,x260001,x260002,x260003,x260004=>if x104 = true then (some true) else ((machine_Run.f k x260000 x260001 x260002 x260003 x260004 x17).bind fun bt294=>((machine_Run.f k x260000 x260001 x260002 x260003 x260004 x18).bind fun bt297=>((kinds_Same.f k x260000 x260001 x260002 x260003 x260004 x17 x18).bind fun bt300=>(if bt294.2.2 = 0 then (if bt297.2.2 = 0 then (if bt300.2 = 0 then (if (bt294.2.1 == bt297.2.1) = true then (some bt300.1) else (some false)) else (some false)) else (some false)) else (some false)))))
end
def coppicerkeep_KindsSame.f (k : Nat) (a0_0 : Int) (a0_1 : Int) (l0_2 : List (List Int)) (a0_3 : Int) (a0_4 : Int) (l1 : List Int) (l2 : List Int) (l3 : List Int) (l4 : List Int) : Option (Bool):=(kinds_Same.f k a0_0 a0_1 l0_2 a0_3 a0_4 l1 l2).bind fun bt260=>((coppicerkeep_good.f k a0_0 a0_1 l0_2 a0_3 a0_4 l1).bind fun t262=>(if t262 = true then ((coppicerkeep_good.f k a0_0 a0_1 l0_2 a0_3 a0_4 l2).bind fun t263=>(coppicerkeep_KindsSame.j0 k l1 l2 l3 l4 bt260.1 bt260.2 (!t263) a0_0 a0_1 l0_2 a0_3 a0_4)) else (coppicerkeep_KindsSame.j0 k l1 l2 l3 l4 bt260.1 bt260.2 true a0_0 a0_1 l0_2 a0_3 a0_4)))
theorem coppicerkeep_KindsSame.mono_l : ∀ k,(∀ y0 y1 y2 y3 y4 y5 y6 y7 y8 y9 y10 y11,LeO (coppicerkeep_KindsSame.j0 k y0 y1 y2 y3 y4 y5 y6 y7 y8 y9 y10 y11) (coppicerkeep_KindsSame.j0 (k + 1) y0 y1 y2 y3 y4 y5 y6 y7 y8 y9 y10 y11)) ∧ (∀ y0 y1 y2 y3 y4 y5 y6 y7 y8 y9 y10,LeO (coppicerkeep_KindsSame.j1 k y0 y1 y2 y3 y4 y5 y6 y7 y8 y9 y10) (coppicerkeep_KindsSame.j1 (k + 1) y0 y1 y2 y3 y4 y5 y6 y7 y8 y9 y10)) ∧ (∀ y0 y1 y2 y3 y4 y5 y6 y7,LeO (coppicerkeep_KindsSame.j2 k y0 y1 y2 y3 y4 y5 y6 y7) (coppicerkeep_KindsSame.j2 (k + 1) y0 y1 y2 y3 y4 y5 y6 y7))
 | 0=>⟨fun _ _ _ _ _ _ _ _ _ _ _ _ r h=>by simp [coppicerkeep_KindsSame.j0] at h,fun _ _ _ _ _ _ _ _ _ _ _ r h=>by simp [coppicerkeep_KindsSame.j1] at h,fun _ _ _ _ _ _ _ _ r h=>by simp [coppicerkeep_KindsSame.j2] at h⟩
 | k + 1=>by
  obtain ⟨ih0,ih1,ih2⟩:=coppicerkeep_KindsSame.mono_l k
  refine ⟨?_,?_,?_⟩
  ·intro y0 y1 y2 y3 y4 y5 y6 y7 y8 y9 y10 y11
   unfold coppicerkeep_KindsSame.j0
   repeat' first
   | (with_reducible exact ih0 _ _ _ _ _ _ _ _ _ _ _ _)
   | (with_reducible exact ih1 _ _ _ _ _ _ _ _ _ _ _)
   | (with_reducible exact ih2 _ _ _ _ _ _ _ _)
   | (with_reducible exact coppicerkeep_good.mono _ _ _ _ _ _ _)
   | (with_reducible exact kinds_Same.mono _ _ _ _ _ _ _ _)
   | (with_reducible exact machine_Run.mono _ _ _ _ _ _ _)
   | (with_reducible exact LeO.refl _)
   | (with_reducible exact LeO.none _)
   | (with_reducible refine LeO.ite ?_ ?_)
   | (with_reducible refine LeO.bind ?_ (fun _=>?_))
   | exact ih0 _ _ _ _ _ _ _ _ _ _ _ _
   | exact ih1 _ _ _ _ _ _ _ _ _ _ _
   | exact ih2 _ _ _ _ _ _ _ _
   | exact coppicerkeep_good.mono _ _ _ _ _ _ _
   | exact kinds_Same.mono _ _ _ _ _ _ _ _
   | exact machine_Run.mono _ _ _ _ _ _ _
   | exact LeO.none _
   | refine LeO.ite ?_ ?_
   | refine LeO.bind ?_ (fun _=>?_)
  ·intro y0 y1 y2 y3 y4 y5 y6 y7 y8 y9 y10
   unfold coppicerkeep_KindsSame.j1
   repeat' first
   | (with_reducible exact ih0 _ _ _ _ _ _ _ _ _ _ _ _)
   | (with_reducible exact ih1 _ _ _ _ _ _ _ _ _ _ _)
   | (with_reducible exact ih2 _ _ _ _ _ _ _ _)
   | (with_reducible exact coppicerkeep_good.mono _ _ _ _ _ _ _)
   | (with_reducible exact kinds_Same.mono _ _ _ _ _ _ _ _)
   | (with_reducible exact machine_Run.mono _ _ _ _ _ _ _)
   | (with_reducible exact LeO.refl _)
   | (with_reducible exact LeO.none _)
   | (with_reducible refine LeO.ite ?_ ?_)
   | (with_reducible refine LeO.bind ?_ (fun _=>?_))
   | exact ih0 _ _ _ _ _ _ _ _ _ _ _ _
   | exact ih1 _ _ _ _ _ _ _ _ _ _ _
   | exact ih2 _ _ _ _ _ _ _ _
   | exact coppicerkeep_good.mono _ _ _ _ _ _ _
   | exact kinds_Same.mono _ _ _ _ _ _ _ _
   | exact machine_Run.mono _ _ _ _ _ _ _
   | exact LeO.none _
   | refine LeO.ite ?_ ?_
   | refine LeO.bind ?_ (fun _=>?_)
  ·intro y0 y1 y2 y3 y4 y5 y6 y7
   unfold coppicerkeep_KindsSame.j2
   repeat' first
   | (with_reducible exact ih0 _ _ _ _ _ _ _ _ _ _ _ _)
   | (with_reducible exact ih1 _ _ _ _ _ _ _ _ _ _ _)
   | (with_reducible exact ih2 _ _ _ _ _ _ _ _)
   | (with_reducible exact coppicerkeep_good.mono _ _ _ _ _ _ _)
   | (with_reducible exact kinds_Same.mono _ _ _ _ _ _ _ _)
   | (with_reducible exact machine_Run.mono _ _ _ _ _ _ _)
   | (with_reducible exact LeO.refl _)
   | (with_reducible exact LeO.none _)
   | (with_reducible refine LeO.ite ?_ ?_)
   | (with_reducible refine LeO.bind ?_ (fun _=>?_))
   | exact ih0 _ _ _ _ _ _ _ _ _ _ _ _
   | exact ih1 _ _ _ _ _ _ _ _ _ _ _
   | exact ih2 _ _ _ _ _ _ _ _
   | exact coppicerkeep_good.mono _ _ _ _ _ _ _
   | exact kinds_Same.mono _ _ _ _ _ _ _ _
   | exact machine_Run.mono _ _ _ _ _ _ _
   | exact LeO.none _
   | refine LeO.ite ?_ ?_
   | refine LeO.bind ?_ (fun _=>?_)
theorem coppicerkeep_KindsSame.mono : ∀ a0 a1 a2 a3 a4 a5 a6 a7 a8 k,LeO (coppicerkeep_KindsSame.f k a0 a1 a2 a3 a4 a5 a6 a7 a8) (coppicerkeep_KindsSame.f (k + 1) a0 a1 a2 a3 a4 a5 a6 a7 a8):=by
 intro a0 a1 a2 a3 a4 a5 a6 a7 a8 k
 obtain ⟨ih0,ih1,ih2⟩:=coppicerkeep_KindsSame.mono_l k
 unfold coppicerkeep_KindsSame.f
 repeat' first
   | (with_reducible exact ih0 _ _ _ _ _ _ _ _ _ _ _ _)
   | (with_reducible exact ih1 _ _ _ _ _ _ _ _ _ _ _)
   | (with_reducible exact ih2 _ _ _ _ _ _ _ _)
   | (with_reducible exact coppicerkeep_good.mono _ _ _ _ _ _ _)
   | (with_reducible exact kinds_Same.mono _ _ _ _ _ _ _ _)
   | (with_reducible exact machine_Run.mono _ _ _ _ _ _ _)
   | (with_reducible exact LeO.refl _)
   | (with_reducible exact LeO.none _)
   | (with_reducible refine LeO.ite ?_ ?_)
   | (with_reducible refine LeO.bind ?_ (fun _=>?_))
   | exact ih0 _ _ _ _ _ _ _ _ _ _ _ _
   | exact ih1 _ _ _ _ _ _ _ _ _ _ _
   | exact ih2 _ _ _ _ _ _ _ _
   | exact coppicerkeep_good.mono _ _ _ _ _ _ _
   | exact kinds_Same.mono _ _ _ _ _ _ _ _
   | exact machine_Run.mono _ _ _ _ _ _ _
   | exact LeO.none _
   | refine LeO.ite ?_ ?_
   | refine LeO.bind ?_ (fun _=>?_)
set_option maxHeartbeats 8000000 in
set_option maxRecDepth 100000 in
theorem coppicerkeep_KindsSame.calls (k : Nat) (a0_0 : Int) (a0_1 : Int) (A0_2 : Option Addr) (c0_2 : Nat) (l0_2 : List (List Int)) (a0_3 : Int) (a0_4 : Int) (A1 : Option Addr) (c1 : Nat) (l1 : List Int) (A2 : Option Addr) (c2 : Nat) (l2 : List Int) (A3 : Option Addr) (c3 : Nat) (l3 : List Int) (A4 : Option Addr) (c4 : Nat) (l4 : List Int) (r : Bool) (w : World) (hr0_2 : Kd.C (Kd.slice 3 (Kd.int .i64)) w A0_2 l0_2.length l0_2) (hc0_2 : l0_2.length ≤ c0_2) (hr1 : Kd.C (Kd.int .i64) w A1 l1.length l1) (hc1 : l1.length ≤ c1) (hr2 : Kd.C (Kd.int .i64) w A2 l2.length l2) (hc2 : l2.length ≤ c2) (hr3 : Kd.C (Kd.int .i64) w A3 l3.length l3) (hc3 : l3.length ≤ c3) (hr4 : Kd.C (Kd.int .i64) w A4 l4.length l4) (hc4 : l4.length ≤ c4) (h : coppicerkeep_KindsSame.f k a0_0 a0_1 l0_2 a0_3 a0_4 l1 l2 l3 l4 = some r) :
  Calls Try.prog 3 #[.agg #[.int .i64 a0_0,.int .i64 a0_1,.slice A0_2 l0_2.length c0_2,.int .i64 a0_3,.int .u32 a0_4],.slice A1 l1.length c1,.slice A2 l2.length c2,.slice A3 l3.length c3,.slice A4 l4.length c4] w fun e w'=>e = .returned (.bool r) ∧ Below w.heap.size w w':=by
 have hu25:=Try.underlying25
 have HR0_2:=Aside0.mk hr0_2
 have HC0_2:=Aside0.mk hc0_2
 clear hr0_2 hc0_2
 have HR1:=Aside0.mk hr1
 have HC1:=Aside0.mk hc1
 clear hr1 hc1
 have HR2:=Aside0.mk hr2
 have HC2:=Aside0.mk hc2
 clear hr2 hc2
 have HR3:=Aside0.mk hr3
 have HC3:=Aside0.mk hc3
 clear hr3 hc3
 have HR4:=Aside0.mk hr4
 have HC4:=Aside0.mk hc4
 clear hr4 hc4
 have HB:=Aside0.mk (Below.refl w.heap.size w)
 have H : ((kinds_Same.f k a0_0 a0_1 l0_2 a0_3 a0_4 l1 l2).bind fun bt260=>((coppicerkeep_good.f k a0_0 a0_1 l0_2 a0_3 a0_4 l1).bind fun t262=>(if t262 = true then ((coppicerkeep_good.f k a0_0 a0_1 l0_2 a0_3 a0_4 l2).bind fun t263=>(coppicerkeep_KindsSame.j0 k l1 l2 l3 l4 bt260.1 bt260.2 (!t263) a0_0 a0_1 l0_2 a0_3 a0_4)) else (coppicerkeep_KindsSame.j0 k l1 l2 l3 l4 bt260.1 bt260.2 true a0_0 a0_1 l0_2 a0_3 a0_4)))) = some r:=h
 clear h
 replace H:=Option.bind_eq_some_iff.mp H
 obtain ⟨⟨t260,t261⟩,A60,H⟩:=H
 replace H : ((coppicerkeep_good.f k a0_0 a0_1 l0_2 a0_3 a0_4 l1).bind fun t262=>(if t262 = true then ((coppicerkeep_good.f k a0_0 a0_1 l0_2 a0_3 a0_4 l2).bind fun t263=>(coppicerkeep_KindsSame.j0 k l1 l2 l3 l4 t260 t261 (!t263) a0_0 a0_1 l0_2 a0_3 a0_4)) else (coppicerkeep_KindsSame.j0 k l1 l2 l3 l4 t260 t261 true a0_0 a0_1 l0_2 a0_3 a0_4))) = some r:=H
 have A6:=Aside0.mk A60
 clear A60
 have HC7:=Aside0.mk H
 clear H
 go_enter Try.func3,Try.ntmps3
 go_upto_region 2 with (first|((with_reducible refine gate_dst (N:=5) rfl ?_);refine box_event ?hg (N:=5) ?hd (cs:=#[.int .i64 a0_0,.int .i64 a0_1,.slice A0_2 l0_2.length c0_2,.int .i64 a0_3,.int .u32 a0_4]) (t:=25) ?hr ?_;(case hd=>rfl);(case hg=>rfl);(case hr=>first|(go_simp;done)|(go_simp;rfl));intro gb259 hg w8 hbox hb;have n0_:=Aside0.mk (below_step (by repeat (first|(with_reducible first|exact HB.out|apply below_alloc|apply pw_below_drewN|apply below_drew1)|exact HB.out)) hb);have n1_:=Aside0.mk (hbox);have n2_:=Aside0.mk ((by rw [hg];exact (below_size (by repeat (first|(with_reducible first|exact HB.out|apply below_alloc|apply pw_below_drewN|apply below_drew1)|exact HB.out))) : w.heap.size ≤ gb259));have n3_:=Aside0.mk ((by rw [hg];exact (below_size (by repeat (first|(with_reducible first|exact HB.out|apply below_alloc|apply pw_below_drewN|apply below_drew1)|exact HB.out))) : w.heap.size ≤ gb259));clear HB;have HB:=n0_;have BK259:=n1_;have GW259:=n2_;have GE259:=n3_;clear n0_ n1_ n2_ n3_;clear hb hbox hg;have hcz9_0 : w8.cell? ⟨gb259,0,none⟩ = some (.int .i64 a0_0):=(blk_cell BK259.out 0).trans rfl;have hcz9_1 : w8.cell? ⟨gb259,1,none⟩ = some (.int .i64 a0_1):=(blk_cell BK259.out 1).trans rfl;have hcz9_2 : w8.cell? ⟨gb259,2,none⟩ = some (.slice A0_2 l0_2.length c0_2):=(blk_cell BK259.out 2).trans rfl;have hcz9_3 : w8.cell? ⟨gb259,3,none⟩ = some (.int .i64 a0_3):=(blk_cell BK259.out 3).trans rfl;have hcz9_4 : w8.cell? ⟨gb259,4,none⟩ = some (.int .u32 a0_4):=(blk_cell BK259.out 4).trans rfl;have hfz9_0:=blk_frozen BK259.out 0;have hfz9_1:=blk_frozen BK259.out 1;have hfz9_2:=blk_frozen BK259.out 2;have hfz9_3:=blk_frozen BK259.out 3;have hfz9_4:=blk_frozen BK259.out 4)|((with_reducible refine gate_callee (f:=5) rfl ?_);refine goesL_ (some 29) rfl rfl Try.func5 (by kernel_rfl) rfl #[.agg #[.int .i64 a0_0,.int .i64 a0_1,.slice A0_2 l0_2.length c0_2,.int .i64 a0_3,.int .u32 a0_4],.slice A1 l1.length c1,.slice A2 l2.length c2] rfl (by (try simp only [List.map_toArray,List.map_cons,List.map_nil]);first|done|rfl|(simp only [List.length_drop,List.length_take];rfl)) ?_;(with_reducible refine (kinds_Same.calls k a0_0 a0_1 _ _ l0_2 a0_3 a0_4 (fun k_=>k_ < w.heap.size) _ _ l1 (fun k_=>k_ < w.heap.size) _ _ l2 t260 t261 _ ?side1 ?side2 ?side3 ?side4 A6.out).mono ?_);(case side1=>repeat (first|exact (Kd.C_below HR0_2.out HB.out)|(with_reducible refine Kd.C_alloc ?_ _)|(with_reducible refine Kd.C_drewN ?_ _)|(with_reducible refine Kd.C_drew ?_)));(case side2=>exact HC0_2.out);(case side3=>exact Kd.V_mk HC1.out (Kd.F_below (Kd.C_F (Kd.heap_int .i64) HR1.out) (by repeat (first|(with_reducible first|exact HB.out|apply below_alloc|apply pw_below_drewN|apply below_drew1|refine below_set ?_ GE259.out)|exact HB.out))));(case side4=>exact Kd.V_mk HC2.out (Kd.F_below (Kd.C_F (Kd.heap_int .i64) HR2.out) (by repeat (first|(with_reducible first|exact HB.out|apply below_alloc|apply pw_below_drewN|apply below_drew1|refine below_set ?_ GE259.out)|exact HB.out))));rintro e w10 ⟨rfl,hb⟩;refine ⟨_,rfl,?_⟩;have n0_:=Aside0.mk (blk_below (g:=gb259) (o:=.cells #[.int .i64 a0_0,.int .i64 a0_1,.slice A0_2 l0_2.length c0_2,.int .i64 a0_3,.int .u32 a0_4] 25 (0,0)) (by (with_reducible repeat (first|refine blk_drewN ?_ _|refine blk_drew ?_|refine blk_alloc ?_ _));exact BK259.out) hb);have n1_:=Aside0.mk (below_step (by repeat (first|(with_reducible first|exact HB.out|apply below_alloc|apply pw_below_drewN|apply below_drew1|refine below_set ?_ GE259.out)|exact HB.out)) hb);clear BK259;clear HB;have BK259:=n0_;have HB:=n1_;clear n0_ n1_;(try clear hb);(try clear hb2);(try clear hk);(try clear hi)))
 (try simp only [Act.put,List.setIfInBounds_toArray,List.set_cons_zero,List.set_cons_succ])
 go_cut [41] (fun v41 wc=>∃ (kq : Nat) (x41_6 : Bool),v41 = .bool x41_6 ∧ Aside0 (coppicerkeep_KindsSame.j0 kq l1 l2 l3 l4 t260 t261 x41_6 a0_0 a0_1 l0_2 a0_3 a0_4 = some r) ∧ Aside0 (kq ≤ k) ∧ Aside0 (wc.heap[gb259]? = some (.cells #[.int .i64 a0_0,.int .i64 a0_1,(.slice A0_2 l0_2.length c0_2),.int .i64 a0_3,.int .u32 a0_4] 25 (0,0))) ∧ Aside0 (Below w.heap.size w wc))
 case first =>
  have H:=HC7.out
  clear HC7
  replace H:=Option.bind_eq_some_iff.mp H
  obtain ⟨t262,A110,H⟩:=H
  replace H : (if t262 = true then ((coppicerkeep_good.f k a0_0 a0_1 l0_2 a0_3 a0_4 l2).bind fun t263=>(coppicerkeep_KindsSame.j0 k l1 l2 l3 l4 t260 t261 (!t263) a0_0 a0_1 l0_2 a0_3 a0_4)) else (coppicerkeep_KindsSame.j0 k l1 l2 l3 l4 t260 t261 true a0_0 a0_1 l0_2 a0_3 a0_4)) = some r:=H
  have A11:=Aside0.mk A110
  clear A110
  by_cases c12 : t262 = true
  ·subst c12
   have H1 : ((coppicerkeep_good.f k a0_0 a0_1 l0_2 a0_3 a0_4 l2).bind fun t263=>(coppicerkeep_KindsSame.j0 k l1 l2 l3 l4 t260 t261 (!t263) a0_0 a0_1 l0_2 a0_3 a0_4)) = some r:=by rw [if_pos rfl] at H;exact H
   clear H
   have H:=H1
   clear H1
   replace H:=Option.bind_eq_some_iff.mp H
   obtain ⟨t263,A130,H⟩:=H
   replace H : (coppicerkeep_KindsSame.j0 k l1 l2 l3 l4 t260 t261 (!t263) a0_0 a0_1 l0_2 a0_3 a0_4) = some r:=H
   have A13:=Aside0.mk A130
   clear A130
   have H':=Aside0.mk H
   clear H
   have hcz14_0 : w10.cell? ⟨gb259,0,none⟩ = some (.int .i64 a0_0):=(blk_cell BK259.out 0).trans rfl
   have hcz14_1 : w10.cell? ⟨gb259,1,none⟩ = some (.int .i64 a0_1):=(blk_cell BK259.out 1).trans rfl
   have hcz14_2 : w10.cell? ⟨gb259,2,none⟩ = some (.slice A0_2 l0_2.length c0_2):=(blk_cell BK259.out 2).trans rfl
   have hcz14_3 : w10.cell? ⟨gb259,3,none⟩ = some (.int .i64 a0_3):=(blk_cell BK259.out 3).trans rfl
   have hcz14_4 : w10.cell? ⟨gb259,4,none⟩ = some (.int .u32 a0_4):=(blk_cell BK259.out 4).trans rfl
   have hfz14_0:=blk_frozen BK259.out 0
   have hfz14_1:=blk_frozen BK259.out 1
   have hfz14_2:=blk_frozen BK259.out 2
   have hfz14_3:=blk_frozen BK259.out 3
   have hfz14_4:=blk_frozen BK259.out 4
   go_wp2_with (first|((with_reducible refine gate_callee (f:=6) rfl ?_);refine goesL_ (some 34) rfl rfl Try.func6 (by kernel_rfl) rfl #[.agg #[.int .i64 a0_0,.int .i64 a0_1,.slice A0_2 l0_2.length c0_2,.int .i64 a0_3,.int .u32 a0_4],.slice A1 l1.length c1] rfl (by (try simp only [List.map_toArray,List.map_cons,List.map_nil]);first|done|rfl|(simp only [List.length_drop,List.length_take];rfl)) ?_;(with_reducible refine (coppicerkeep_good.calls k a0_0 a0_1 _ _ l0_2 a0_3 a0_4 _ _ l1 true _ ?side1 ?side2 ?side3 ?side4 A11.out).mono ?_);(case side1=>repeat (first|exact (Kd.C_below HR0_2.out HB.out)|(with_reducible refine Kd.C_alloc ?_ _)|(with_reducible refine Kd.C_drewN ?_ _)|(with_reducible refine Kd.C_drew ?_)));(case side2=>exact HC0_2.out);(case side3=>repeat (first|exact (Kd.C_below HR1.out HB.out)|(with_reducible refine Kd.C_alloc ?_ _)|(with_reducible refine Kd.C_drewN ?_ _)|(with_reducible refine Kd.C_drew ?_)));(case side4=>exact HC1.out);rintro e w15 ⟨rfl,hb⟩;refine ⟨_,rfl,?_⟩;have n0_:=Aside0.mk (blk_below (g:=gb259) (o:=.cells #[.int .i64 a0_0,.int .i64 a0_1,.slice A0_2 l0_2.length c0_2,.int .i64 a0_3,.int .u32 a0_4] 25 (0,0)) (by (with_reducible repeat (first|refine blk_drewN ?_ _|refine blk_drew ?_|refine blk_alloc ?_ _));exact BK259.out) hb);have n1_:=Aside0.mk (below_step (by repeat (first|(with_reducible first|exact HB.out|apply below_alloc|apply pw_below_drewN|apply below_drew1|refine below_set ?_ GE259.out)|exact HB.out)) hb);clear BK259;clear HB;have BK259:=n0_;have HB:=n1_;clear n0_ n1_;(try clear hb);(try clear hb2);(try clear hk);(try clear hi);have hcz16_0 : w15.cell? ⟨gb259,0,none⟩ = some (.int .i64 a0_0):=(blk_cell BK259.out 0).trans rfl;have hcz16_1 : w15.cell? ⟨gb259,1,none⟩ = some (.int .i64 a0_1):=(blk_cell BK259.out 1).trans rfl;have hcz16_2 : w15.cell? ⟨gb259,2,none⟩ = some (.slice A0_2 l0_2.length c0_2):=(blk_cell BK259.out 2).trans rfl;have hcz16_3 : w15.cell? ⟨gb259,3,none⟩ = some (.int .i64 a0_3):=(blk_cell BK259.out 3).trans rfl;have hcz16_4 : w15.cell? ⟨gb259,4,none⟩ = some (.int .u32 a0_4):=(blk_cell BK259.out 4).trans rfl;have hfz16_0:=blk_frozen BK259.out 0;have hfz16_1:=blk_frozen BK259.out 1;have hfz16_2:=blk_frozen BK259.out 2;have hfz16_3:=blk_frozen BK259.out 3;have hfz16_4:=blk_frozen BK259.out 4)|(go_at_call 6;(with_reducible refine (coppicerkeep_good.calls k a0_0 a0_1 _ _ l0_2 a0_3 a0_4 _ _ l2 t263 _ ?side1 ?side2 ?side3 ?side4 A13.out).mono ?_);(case side1=>repeat (first|exact (Kd.C_below HR0_2.out HB.out)|(with_reducible refine Kd.C_alloc ?_ _)|(with_reducible refine Kd.C_drewN ?_ _)|(with_reducible refine Kd.C_drew ?_)));(case side2=>exact HC0_2.out);(case side3=>repeat (first|exact (Kd.C_below HR2.out HB.out)|(with_reducible refine Kd.C_alloc ?_ _)|(with_reducible refine Kd.C_drewN ?_ _)|(with_reducible refine Kd.C_drew ?_)));(case side4=>exact HC2.out);rintro e w17 ⟨rfl,hb⟩;have n0_:=Aside0.mk (blk_below (g:=gb259) (o:=.cells #[.int .i64 a0_0,.int .i64 a0_1,.slice A0_2 l0_2.length c0_2,.int .i64 a0_3,.int .u32 a0_4] 25 (0,0)) (by (with_reducible repeat (first|refine blk_drewN ?_ _|refine blk_drew ?_|refine blk_alloc ?_ _));exact BK259.out) hb);have n1_:=Aside0.mk (below_step (by repeat (first|(with_reducible first|exact HB.out|apply below_alloc|apply pw_below_drewN|apply below_drew1|refine below_set ?_ GE259.out)|exact HB.out)) hb);clear BK259;clear HB;have BK259:=n0_;have HB:=n1_;clear n0_ n1_;(try clear hb);(try clear hb2);(try clear hk);(try clear hi)))
   go_meet
   case rel=>exact ⟨_,(!t263),(by first|rfl|(simp;done)|(simp [*];done)),H',⟨by first|omega|exact Nat.le_refl _⟩,⟨by (with_reducible repeat (first|refine blk_drewN ?_ _|refine blk_drew ?_|refine blk_alloc ?_ _));exact BK259.out⟩,⟨by repeat (first|(with_reducible first|exact HB.out|apply below_alloc|apply pw_below_drewN|apply below_drew1|refine below_set ?_ GE259.out)|exact HB.out)⟩⟩
  ·replace c12:=Bool.eq_false_iff.mpr c12
   subst c12
   have H1 : (coppicerkeep_KindsSame.j0 k l1 l2 l3 l4 t260 t261 true a0_0 a0_1 l0_2 a0_3 a0_4) = some r:=by rw [if_neg (show ¬ (false = true) by decide)] at H;exact H
   clear H
   have H:=H1
   clear H1
   have H':=Aside0.mk H
   clear H
   have hcz18_0 : w10.cell? ⟨gb259,0,none⟩ = some (.int .i64 a0_0):=(blk_cell BK259.out 0).trans rfl
   have hcz18_1 : w10.cell? ⟨gb259,1,none⟩ = some (.int .i64 a0_1):=(blk_cell BK259.out 1).trans rfl
   have hcz18_2 : w10.cell? ⟨gb259,2,none⟩ = some (.slice A0_2 l0_2.length c0_2):=(blk_cell BK259.out 2).trans rfl
   have hcz18_3 : w10.cell? ⟨gb259,3,none⟩ = some (.int .i64 a0_3):=(blk_cell BK259.out 3).trans rfl
   have hcz18_4 : w10.cell? ⟨gb259,4,none⟩ = some (.int .u32 a0_4):=(blk_cell BK259.out 4).trans rfl
   have hfz18_0:=blk_frozen BK259.out 0
   have hfz18_1:=blk_frozen BK259.out 1
   have hfz18_2:=blk_frozen BK259.out 2
   have hfz18_3:=blk_frozen BK259.out 3
   have hfz18_4:=blk_frozen BK259.out 4
   go_wp2_with (first|((with_reducible refine gate_callee (f:=6) rfl ?_);refine goesL_ (some 34) rfl rfl Try.func6 (by kernel_rfl) rfl #[.agg #[.int .i64 a0_0,.int .i64 a0_1,.slice A0_2 l0_2.length c0_2,.int .i64 a0_3,.int .u32 a0_4],.slice A1 l1.length c1] rfl (by (try simp only [List.map_toArray,List.map_cons,List.map_nil]);first|done|rfl|(simp only [List.length_drop,List.length_take];rfl)) ?_;(with_reducible refine (coppicerkeep_good.calls k a0_0 a0_1 _ _ l0_2 a0_3 a0_4 _ _ l1 false _ ?side1 ?side2 ?side3 ?side4 A11.out).mono ?_);(case side1=>repeat (first|exact (Kd.C_below HR0_2.out HB.out)|(with_reducible refine Kd.C_alloc ?_ _)|(with_reducible refine Kd.C_drewN ?_ _)|(with_reducible refine Kd.C_drew ?_)));(case side2=>exact HC0_2.out);(case side3=>repeat (first|exact (Kd.C_below HR1.out HB.out)|(with_reducible refine Kd.C_alloc ?_ _)|(with_reducible refine Kd.C_drewN ?_ _)|(with_reducible refine Kd.C_drew ?_)));(case side4=>exact HC1.out);rintro e w19 ⟨rfl,hb⟩;refine ⟨_,rfl,?_⟩;have n0_:=Aside0.mk (blk_below (g:=gb259) (o:=.cells #[.int .i64 a0_0,.int .i64 a0_1,.slice A0_2 l0_2.length c0_2,.int .i64 a0_3,.int .u32 a0_4] 25 (0,0)) (by (with_reducible repeat (first|refine blk_drewN ?_ _|refine blk_drew ?_|refine blk_alloc ?_ _));exact BK259.out) hb);have n1_:=Aside0.mk (below_step (by repeat (first|(with_reducible first|exact HB.out|apply below_alloc|apply pw_below_drewN|apply below_drew1|refine below_set ?_ GE259.out)|exact HB.out)) hb);clear BK259;clear HB;have BK259:=n0_;have HB:=n1_;clear n0_ n1_;(try clear hb);(try clear hb2);(try clear hk);(try clear hi)))
   go_meet
   case rel=>exact ⟨_,(true),(by first|rfl|(simp;done)|(simp [*];done)),H',⟨by first|omega|exact Nat.le_refl _⟩,⟨by (with_reducible repeat (first|refine blk_drewN ?_ _|refine blk_drew ?_|refine blk_alloc ?_ _));exact BK259.out⟩,⟨by repeat (first|(with_reducible first|exact HB.out|apply below_alloc|apply pw_below_drewN|apply below_drew1|refine below_set ?_ GE259.out)|exact HB.out)⟩⟩
 case rest =>
  clear HC7
  try clear c1
  try clear c2
  try clear p2
  try clear c3
  try clear c4
  try clear c5
  try clear c6
  try clear c12
  try clear hcz14_0
  try clear hcz14_1
  try clear hcz14_2
  try clear hcz14_3
  try clear hcz14_4
  try clear hcz16_0
  try clear hcz16_1
  try clear hcz16_2
  try clear hcz16_3
  try clear hcz16_4
  try clear hcz18_0
  try clear hcz18_1
  try clear hcz18_2
  try clear hcz18_3
  try clear hcz18_4
  try clear hcz9_0
  try clear hcz9_1
  try clear hcz9_2
  try clear hcz9_3
  try clear hcz9_4
  try clear hfz14_0
  try clear hfz14_1
  try clear hfz14_2
  try clear hfz14_3
  try clear hfz14_4
  try clear hfz16_0
  try clear hfz16_1
  try clear hfz16_2
  try clear hfz16_3
  try clear hfz16_4
  try clear hfz18_0
  try clear hfz18_1
  try clear hfz18_2
  try clear hfz18_3
  try clear hfz18_4
  try clear hfz9_0
  try clear hfz9_1
  try clear hfz9_2
  try clear hfz9_3
  try clear hfz9_4
  obtain ⟨kq,x41_6,rfl,HA,HJ6,BK259,HB⟩:=hcut
  cases kq with
  | zero=>exact absurd HA.out (by simp [coppicerkeep_KindsSame.j0])
  | succ kj6 =>
   have H:=HA.out
   clear HA
   simp only [coppicerkeep_KindsSame.j0] at H
   by_cases c20 : x41_6 = true
   ·subst c20
    have H1 : (some (t261 != 0)) = some r:=by rw [if_pos rfl] at H;exact H
    clear H
    have H:=H1
    clear H1
    obtain rfl:=Option.some.inj H
    go_wp2
    go_ret
    exact ⟨by first|rfl|(simp [errW_none,errW_some] <;> rfl)|(simp [*,errW_none,errW_some] <;> rfl),by repeat (first|(with_reducible first|exact HB.out|apply below_alloc|apply pw_below_drewN|apply below_drew1|refine below_set ?_ GE259.out)|exact HB.out)⟩
   ·replace c20:=Bool.eq_false_iff.mpr c20
    subst c20
    have H1 : ((kinds_Same.f kj6 a0_0 a0_1 l0_2 a0_3 a0_4 l1 l1).bind fun bt264=>((kinds_Same.f kj6 a0_0 a0_1 l0_2 a0_3 a0_4 l2 l1).bind fun bt266=>(if t261 = 0 then (if bt264.2 = 0 then (if bt266.2 = 0 then (if bt264.1 = true then (coppicerkeep_KindsSame.j1 kj6 l1 l2 l3 l4 t260 (bt266.1 != t260) a0_0 a0_1 l0_2 a0_3 a0_4) else (coppicerkeep_KindsSame.j1 kj6 l1 l2 l3 l4 t260 true a0_0 a0_1 l0_2 a0_3 a0_4)) else (coppicerkeep_KindsSame.j1 kj6 l1 l2 l3 l4 t260 true a0_0 a0_1 l0_2 a0_3 a0_4)) else (coppicerkeep_KindsSame.j1 kj6 l1 l2 l3 l4 t260 true a0_0 a0_1 l0_2 a0_3 a0_4)) else (coppicerkeep_KindsSame.j1 kj6 l1 l2 l3 l4 t260 true a0_0 a0_1 l0_2 a0_3 a0_4)))) = some r:=by rw [if_neg (show ¬ (false = true) by decide)] at H;exact H
    clear H
    have H:=H1
    clear H1
    replace H:=Option.bind_eq_some_iff.mp H
    obtain ⟨⟨t264,t265⟩,A210,H⟩:=H
    replace H : ((kinds_Same.f kj6 a0_0 a0_1 l0_2 a0_3 a0_4 l2 l1).bind fun bt266=>(if t261 = 0 then (if t265 = 0 then (if bt266.2 = 0 then (if t264 = true then (coppicerkeep_KindsSame.j1 kj6 l1 l2 l3 l4 t260 (bt266.1 != t260) a0_0 a0_1 l0_2 a0_3 a0_4) else (coppicerkeep_KindsSame.j1 kj6 l1 l2 l3 l4 t260 true a0_0 a0_1 l0_2 a0_3 a0_4)) else (coppicerkeep_KindsSame.j1 kj6 l1 l2 l3 l4 t260 true a0_0 a0_1 l0_2 a0_3 a0_4)) else (coppicerkeep_KindsSame.j1 kj6 l1 l2 l3 l4 t260 true a0_0 a0_1 l0_2 a0_3 a0_4)) else (coppicerkeep_KindsSame.j1 kj6 l1 l2 l3 l4 t260 true a0_0 a0_1 l0_2 a0_3 a0_4))) = some r:=H
    have A21:=Aside0.mk A210
    clear A210
    replace H:=Option.bind_eq_some_iff.mp H
    obtain ⟨⟨t266,t267⟩,A220,H⟩:=H
    replace H : (if t261 = 0 then (if t265 = 0 then (if t267 = 0 then (if t264 = true then (coppicerkeep_KindsSame.j1 kj6 l1 l2 l3 l4 t260 (t266 != t260) a0_0 a0_1 l0_2 a0_3 a0_4) else (coppicerkeep_KindsSame.j1 kj6 l1 l2 l3 l4 t260 true a0_0 a0_1 l0_2 a0_3 a0_4)) else (coppicerkeep_KindsSame.j1 kj6 l1 l2 l3 l4 t260 true a0_0 a0_1 l0_2 a0_3 a0_4)) else (coppicerkeep_KindsSame.j1 kj6 l1 l2 l3 l4 t260 true a0_0 a0_1 l0_2 a0_3 a0_4)) else (coppicerkeep_KindsSame.j1 kj6 l1 l2 l3 l4 t260 true a0_0 a0_1 l0_2 a0_3 a0_4)) = some r:=H
    have A22:=Aside0.mk A220
    clear A220
    have HC23:=Aside0.mk H
    clear H
    have hcz24_0 : wc.cell? ⟨gb259,0,none⟩ = some (.int .i64 a0_0):=(blk_cell BK259.out 0).trans rfl
    have hcz24_1 : wc.cell? ⟨gb259,1,none⟩ = some (.int .i64 a0_1):=(blk_cell BK259.out 1).trans rfl
    have hcz24_2 : wc.cell? ⟨gb259,2,none⟩ = some (.slice A0_2 l0_2.length c0_2):=(blk_cell BK259.out 2).trans rfl
    have hcz24_3 : wc.cell? ⟨gb259,3,none⟩ = some (.int .i64 a0_3):=(blk_cell BK259.out 3).trans rfl
    have hcz24_4 : wc.cell? ⟨gb259,4,none⟩ = some (.int .u32 a0_4):=(blk_cell BK259.out 4).trans rfl
    have hfz24_0:=blk_frozen BK259.out 0
    have hfz24_1:=blk_frozen BK259.out 1
    have hfz24_2:=blk_frozen BK259.out 2
    have hfz24_3:=blk_frozen BK259.out 3
    have hfz24_4:=blk_frozen BK259.out 4
    go_upto_region 6 with (first|((with_reducible refine gate_callee (f:=5) rfl ?_);refine goesL_ (some 48) rfl rfl Try.func5 (by kernel_rfl) rfl #[.agg #[.int .i64 a0_0,.int .i64 a0_1,.slice A0_2 l0_2.length c0_2,.int .i64 a0_3,.int .u32 a0_4],.slice A1 l1.length c1,.slice A1 l1.length c1] rfl (by (try simp only [List.map_toArray,List.map_cons,List.map_nil]);first|done|rfl|(simp only [List.length_drop,List.length_take];rfl)) ?_;(with_reducible refine (kinds_Same.calls kj6 a0_0 a0_1 _ _ l0_2 a0_3 a0_4 (fun k_=>k_ < w.heap.size) _ _ l1 (fun k_=>k_ < w.heap.size) _ _ l1 t264 t265 _ ?side1 ?side2 ?side3 ?side4 A21.out).mono ?_);(case side1=>repeat (first|exact (Kd.C_below HR0_2.out HB.out)|(with_reducible refine Kd.C_alloc ?_ _)|(with_reducible refine Kd.C_drewN ?_ _)|(with_reducible refine Kd.C_drew ?_)));(case side2=>exact HC0_2.out);(case side3=>exact Kd.V_mk HC1.out (Kd.F_below (Kd.C_F (Kd.heap_int .i64) HR1.out) (by repeat (first|(with_reducible first|exact HB.out|apply below_alloc|apply pw_below_drewN|apply below_drew1|refine below_set ?_ GE259.out)|exact HB.out))));(case side4=>exact Kd.V_mk HC1.out (Kd.F_below (Kd.C_F (Kd.heap_int .i64) HR1.out) (by repeat (first|(with_reducible first|exact HB.out|apply below_alloc|apply pw_below_drewN|apply below_drew1|refine below_set ?_ GE259.out)|exact HB.out))));rintro e w25 ⟨rfl,hb⟩;refine ⟨_,rfl,?_⟩;have n0_:=Aside0.mk (blk_below (g:=gb259) (o:=.cells #[.int .i64 a0_0,.int .i64 a0_1,.slice A0_2 l0_2.length c0_2,.int .i64 a0_3,.int .u32 a0_4] 25 (0,0)) (by (with_reducible repeat (first|refine blk_drewN ?_ _|refine blk_drew ?_|refine blk_alloc ?_ _));exact BK259.out) hb);have n1_:=Aside0.mk (below_step (by repeat (first|(with_reducible first|exact HB.out|apply below_alloc|apply pw_below_drewN|apply below_drew1|refine below_set ?_ GE259.out)|exact HB.out)) hb);clear BK259;clear HB;have BK259:=n0_;have HB:=n1_;clear n0_ n1_;(try clear hb);(try clear hb2);(try clear hk);(try clear hi);have hcz26_0 : w25.cell? ⟨gb259,0,none⟩ = some (.int .i64 a0_0):=(blk_cell BK259.out 0).trans rfl;have hcz26_1 : w25.cell? ⟨gb259,1,none⟩ = some (.int .i64 a0_1):=(blk_cell BK259.out 1).trans rfl;have hcz26_2 : w25.cell? ⟨gb259,2,none⟩ = some (.slice A0_2 l0_2.length c0_2):=(blk_cell BK259.out 2).trans rfl;have hcz26_3 : w25.cell? ⟨gb259,3,none⟩ = some (.int .i64 a0_3):=(blk_cell BK259.out 3).trans rfl;have hcz26_4 : w25.cell? ⟨gb259,4,none⟩ = some (.int .u32 a0_4):=(blk_cell BK259.out 4).trans rfl;have hfz26_0:=blk_frozen BK259.out 0;have hfz26_1:=blk_frozen BK259.out 1;have hfz26_2:=blk_frozen BK259.out 2;have hfz26_3:=blk_frozen BK259.out 3;have hfz26_4:=blk_frozen BK259.out 4)|((with_reducible refine gate_callee (f:=5) rfl ?_);refine goesL_ (some 55) rfl rfl Try.func5 (by kernel_rfl) rfl #[.agg #[.int .i64 a0_0,.int .i64 a0_1,.slice A0_2 l0_2.length c0_2,.int .i64 a0_3,.int .u32 a0_4],.slice A2 l2.length c2,.slice A1 l1.length c1] rfl (by (try simp only [List.map_toArray,List.map_cons,List.map_nil]);first|done|rfl|(simp only [List.length_drop,List.length_take];rfl)) ?_;(with_reducible refine (kinds_Same.calls kj6 a0_0 a0_1 _ _ l0_2 a0_3 a0_4 (fun k_=>k_ < w.heap.size) _ _ l2 (fun k_=>k_ < w.heap.size) _ _ l1 t266 t267 _ ?side1 ?side2 ?side3 ?side4 A22.out).mono ?_);(case side1=>repeat (first|exact (Kd.C_below HR0_2.out HB.out)|(with_reducible refine Kd.C_alloc ?_ _)|(with_reducible refine Kd.C_drewN ?_ _)|(with_reducible refine Kd.C_drew ?_)));(case side2=>exact HC0_2.out);(case side3=>exact Kd.V_mk HC2.out (Kd.F_below (Kd.C_F (Kd.heap_int .i64) HR2.out) (by repeat (first|(with_reducible first|exact HB.out|apply below_alloc|apply pw_below_drewN|apply below_drew1|refine below_set ?_ GE259.out)|exact HB.out))));(case side4=>exact Kd.V_mk HC1.out (Kd.F_below (Kd.C_F (Kd.heap_int .i64) HR1.out) (by repeat (first|(with_reducible first|exact HB.out|apply below_alloc|apply pw_below_drewN|apply below_drew1|refine below_set ?_ GE259.out)|exact HB.out))));rintro e w27 ⟨rfl,hb⟩;refine ⟨_,rfl,?_⟩;have n0_:=Aside0.mk (blk_below (g:=gb259) (o:=.cells #[.int .i64 a0_0,.int .i64 a0_1,.slice A0_2 l0_2.length c0_2,.int .i64 a0_3,.int .u32 a0_4] 25 (0,0)) (by (with_reducible repeat (first|refine blk_drewN ?_ _|refine blk_drew ?_|refine blk_alloc ?_ _));exact BK259.out) hb);have n1_:=Aside0.mk (below_step (by repeat (first|(with_reducible first|exact HB.out|apply below_alloc|apply pw_below_drewN|apply below_drew1|refine below_set ?_ GE259.out)|exact HB.out)) hb);clear BK259;clear HB;have BK259:=n0_;have HB:=n1_;clear n0_ n1_;(try clear hb);(try clear hb2);(try clear hk);(try clear hi)))
    (try simp only [Act.put,List.setIfInBounds_toArray,List.set_cons_zero,List.set_cons_succ])
    go_cut [76] (fun v76 wc=>∃ (kq : Nat) (x76_22 : Bool),v76 = .bool x76_22 ∧ Aside0 (coppicerkeep_KindsSame.j1 kq l1 l2 l3 l4 t260 x76_22 a0_0 a0_1 l0_2 a0_3 a0_4 = some r) ∧ Aside0 (kq ≤ kj6) ∧ Aside0 (wc.heap[gb259]? = some (.cells #[.int .i64 a0_0,.int .i64 a0_1,(.slice A0_2 l0_2.length c0_2),.int .i64 a0_3,.int .u32 a0_4] 25 (0,0))) ∧ Aside0 (Below w.heap.size w wc))
    case first =>
     have H:=HC23.out
     clear HC23
     by_cases c28 : t261 = 0
     ·rw [if_pos c28] at H
      have c28b0 : (t261 == 0) = true:=beq_iff_eq.mpr c28
      have c28b1 : (t261 != 0) = false:=bne_eq_false_iff_eq.mpr c28
      clear c28
      (first|rw [c28b0]|(simp only [i64_w,i32_w];rw [c28b0])|skip)
      by_cases c29 : t265 = 0
      ·rw [if_pos c29] at H
       have c29b0 : (t265 == 0) = true:=beq_iff_eq.mpr c29
       have c29b1 : (t265 != 0) = false:=bne_eq_false_iff_eq.mpr c29
       clear c29
       by_cases c30 : t267 = 0
       ·rw [if_pos c30] at H
        have c30b0 : (t267 == 0) = true:=beq_iff_eq.mpr c30
        have c30b1 : (t267 != 0) = false:=bne_eq_false_iff_eq.mpr c30
        clear c30
        by_cases c31 : t264 = true
        ·subst c31
         have H1 : (coppicerkeep_KindsSame.j1 kj6 l1 l2 l3 l4 t260 (t266 != t260) a0_0 a0_1 l0_2 a0_3 a0_4) = some r:=by rw [if_pos rfl] at H;exact H
         clear H
         have H:=H1
         clear H1
         have H':=Aside0.mk H
         clear H
         go_wp2
         go_meet
         case rel=>exact ⟨_,((t266 != t260)),(by first|rfl|(simp;done)|(simp [*];done)),H',⟨by have:=HJ6.out;first|omega|exact Nat.le_refl _⟩,⟨by (with_reducible repeat (first|refine blk_drewN ?_ _|refine blk_drew ?_|refine blk_alloc ?_ _));exact BK259.out⟩,⟨by repeat (first|(with_reducible first|exact HB.out|apply below_alloc|apply pw_below_drewN|apply below_drew1|refine below_set ?_ GE259.out)|exact HB.out)⟩⟩
        ·replace c31:=Bool.eq_false_iff.mpr c31
         subst c31
         have H1 : (coppicerkeep_KindsSame.j1 kj6 l1 l2 l3 l4 t260 true a0_0 a0_1 l0_2 a0_3 a0_4) = some r:=by rw [if_neg (show ¬ (false = true) by decide)] at H;exact H
         clear H
         have H:=H1
         clear H1
         have H':=Aside0.mk H
         clear H
         go_wp2
         go_meet
         case rel=>exact ⟨_,(true),(by first|rfl|(simp;done)|(simp [*];done)),H',⟨by have:=HJ6.out;first|omega|exact Nat.le_refl _⟩,⟨by (with_reducible repeat (first|refine blk_drewN ?_ _|refine blk_drew ?_|refine blk_alloc ?_ _));exact BK259.out⟩,⟨by repeat (first|(with_reducible first|exact HB.out|apply below_alloc|apply pw_below_drewN|apply below_drew1|refine below_set ?_ GE259.out)|exact HB.out)⟩⟩
       ·rw [if_neg c30] at H
        have c30b0 : (t267 == 0) = false:=beq_eq_false_iff_ne.mpr c30
        have c30b1 : (t267 != 0) = true:=bne_iff_ne.mpr c30
        have H':=Aside0.mk H
        clear H
        go_wp2
        go_meet
        case rel=>exact ⟨_,(true),(by first|rfl|(simp;done)|(simp [*];done)),H',⟨by have:=HJ6.out;first|omega|exact Nat.le_refl _⟩,⟨by (with_reducible repeat (first|refine blk_drewN ?_ _|refine blk_drew ?_|refine blk_alloc ?_ _));exact BK259.out⟩,⟨by repeat (first|(with_reducible first|exact HB.out|apply below_alloc|apply pw_below_drewN|apply below_drew1|refine below_set ?_ GE259.out)|exact HB.out)⟩⟩
      ·rw [if_neg c29] at H
       have c29b0 : (t265 == 0) = false:=beq_eq_false_iff_ne.mpr c29
       have c29b1 : (t265 != 0) = true:=bne_iff_ne.mpr c29
       have H':=Aside0.mk H
       clear H
       go_wp2
       go_meet
       case rel=>exact ⟨_,(true),(by first|rfl|(simp;done)|(simp [*];done)),H',⟨by have:=HJ6.out;first|omega|exact Nat.le_refl _⟩,⟨by (with_reducible repeat (first|refine blk_drewN ?_ _|refine blk_drew ?_|refine blk_alloc ?_ _));exact BK259.out⟩,⟨by repeat (first|(with_reducible first|exact HB.out|apply below_alloc|apply pw_below_drewN|apply below_drew1|refine below_set ?_ GE259.out)|exact HB.out)⟩⟩
     ·rw [if_neg c28] at H
      have c28b0 : (t261 == 0) = false:=beq_eq_false_iff_ne.mpr c28
      have c28b1 : (t261 != 0) = true:=bne_iff_ne.mpr c28
      (first|rw [c28b0]|(simp only [i64_w,i32_w];rw [c28b0])|skip)
      have H':=Aside0.mk H
      clear H
      go_wp2
      go_meet
      case rel=>exact ⟨_,(true),(by first|rfl|(simp;done)|(simp [*];done)),H',⟨by have:=HJ6.out;first|omega|exact Nat.le_refl _⟩,⟨by (with_reducible repeat (first|refine blk_drewN ?_ _|refine blk_drew ?_|refine blk_alloc ?_ _));exact BK259.out⟩,⟨by repeat (first|(with_reducible first|exact HB.out|apply below_alloc|apply pw_below_drewN|apply below_drew1|refine below_set ?_ GE259.out)|exact HB.out)⟩⟩
    case rest =>
     clear HC23
     try clear c1
     try clear c2
     try clear p2
     try clear c3
     try clear c4
     try clear c5
     try clear c6
     try clear c12
     try clear c20
     try clear c28
     try clear c28b0
     try clear c28b1
     try clear c29
     try clear c29b0
     try clear c29b1
     try clear c30
     try clear c30b0
     try clear c30b1
     try clear c31
     try clear hcz14_0
     try clear hcz14_1
     try clear hcz14_2
     try clear hcz14_3
     try clear hcz14_4
     try clear hcz16_0
     try clear hcz16_1
     try clear hcz16_2
     try clear hcz16_3
     try clear hcz16_4
     try clear hcz18_0
     try clear hcz18_1
     try clear hcz18_2
     try clear hcz18_3
     try clear hcz18_4
     try clear hcz24_0
     try clear hcz24_1
     try clear hcz24_2
     try clear hcz24_3
     try clear hcz24_4
     try clear hcz26_0
     try clear hcz26_1
     try clear hcz26_2
     try clear hcz26_3
     try clear hcz26_4
     try clear hcz9_0
     try clear hcz9_1
     try clear hcz9_2
     try clear hcz9_3
     try clear hcz9_4
     try clear hfz14_0
     try clear hfz14_1
     try clear hfz14_2
     try clear hfz14_3
     try clear hfz14_4
     try clear hfz16_0
     try clear hfz16_1
     try clear hfz16_2
     try clear hfz16_3
     try clear hfz16_4
     try clear hfz18_0
     try clear hfz18_1
     try clear hfz18_2
     try clear hfz18_3
     try clear hfz18_4
     try clear hfz24_0
     try clear hfz24_1
     try clear hfz24_2
     try clear hfz24_3
     try clear hfz24_4
     try clear hfz26_0
     try clear hfz26_1
     try clear hfz26_2
     try clear hfz26_3
     try clear hfz26_4
     try clear hfz9_0
     try clear hfz9_1
     try clear hfz9_2
     try clear hfz9_3
     try clear hfz9_4
     try clear p2
     obtain ⟨kq,x76_22,rfl,HA,HJ22,BK259,HB⟩:=hcut
     cases kq with
     | zero=>exact absurd HA.out (by simp [coppicerkeep_KindsSame.j1])
     | succ kj22 =>
      have H:=HA.out
      clear HA
      simp only [coppicerkeep_KindsSame.j1] at H
      by_cases c32 : x76_22 = true
      ·subst c32
       have H1 : (some false) = some r:=by rw [if_pos rfl] at H;exact H
       clear H
       have H:=H1
       clear H1
       obtain rfl:=Option.some.inj H
       go_wp2
       go_ret
       exact ⟨by first|rfl|(simp [errW_none,errW_some] <;> rfl)|(simp [*,errW_none,errW_some] <;> rfl),by repeat (first|(with_reducible first|exact HB.out|apply below_alloc|apply pw_below_drewN|apply below_drew1|refine below_set ?_ GE259.out)|exact HB.out)⟩
      ·replace c32:=Bool.eq_false_iff.mpr c32
       subst c32
       have H1 : ((some (([] : List Int) : List Int)).bind fun y268=>(if y268.length + l3.length < 17592186044416 then ((some (y268 ++ l3 : List Int)).bind fun y271=>(if y271.length + l1.length < 17592186044416 then ((some (y271 ++ l1 : List Int)).bind fun y274=>(if y274.length + l4.length < 17592186044416 then ((some (y274 ++ l4 : List Int)).bind fun y277=>((some (([] : List Int) : List Int)).bind fun y280=>(if y280.length + l3.length < 17592186044416 then ((some (y280 ++ l3 : List Int)).bind fun y283=>(if y283.length + l2.length < 17592186044416 then ((some (y283 ++ l2 : List Int)).bind fun y286=>(if y286.length + l4.length < 17592186044416 then ((some (y286 ++ l4 : List Int)).bind fun y289=>(if t260 = true then ((coppicerkeep_good.f kj22 a0_0 a0_1 l0_2 a0_3 a0_4 y277).bind fun t292=>(if t292 = true then ((coppicerkeep_good.f kj22 a0_0 a0_1 l0_2 a0_3 a0_4 y289).bind fun t293=>(coppicerkeep_KindsSame.j2 kj22 y277 y289 (!t293) a0_0 a0_1 l0_2 a0_3 a0_4)) else (coppicerkeep_KindsSame.j2 kj22 y277 y289 true a0_0 a0_1 l0_2 a0_3 a0_4))) else (coppicerkeep_KindsSame.j2 kj22 y277 y289 true a0_0 a0_1 l0_2 a0_3 a0_4))) else (none))) else (none))) else (none)))) else (none))) else (none))) else (none))) = some r:=by rw [if_neg (show ¬ (false = true) by decide)] at H;exact H
       clear H
       have H:=H1
       clear H1
       obtain ⟨y268,hy268⟩ : ∃ y_ : List Int,y_ = (([] : List Int)):=⟨_,rfl⟩
       replace H : (if y268.length + l3.length < 17592186044416 then ((some (y268 ++ l3 : List Int)).bind fun y271=>(if y271.length + l1.length < 17592186044416 then ((some (y271 ++ l1 : List Int)).bind fun y274=>(if y274.length + l4.length < 17592186044416 then ((some (y274 ++ l4 : List Int)).bind fun y277=>((some (([] : List Int) : List Int)).bind fun y280=>(if y280.length + l3.length < 17592186044416 then ((some (y280 ++ l3 : List Int)).bind fun y283=>(if y283.length + l2.length < 17592186044416 then ((some (y283 ++ l2 : List Int)).bind fun y286=>(if y286.length + l4.length < 17592186044416 then ((some (y286 ++ l4 : List Int)).bind fun y289=>(if t260 = true then ((coppicerkeep_good.f kj22 a0_0 a0_1 l0_2 a0_3 a0_4 y277).bind fun t292=>(if t292 = true then ((coppicerkeep_good.f kj22 a0_0 a0_1 l0_2 a0_3 a0_4 y289).bind fun t293=>(coppicerkeep_KindsSame.j2 kj22 y277 y289 (!t293) a0_0 a0_1 l0_2 a0_3 a0_4)) else (coppicerkeep_KindsSame.j2 kj22 y277 y289 true a0_0 a0_1 l0_2 a0_3 a0_4))) else (coppicerkeep_KindsSame.j2 kj22 y277 y289 true a0_0 a0_1 l0_2 a0_3 a0_4))) else (none))) else (none))) else (none)))) else (none))) else (none))) else (none)) = some r:=by first|(rw [hy268];with_reducible exact H)|(have H2_:=(Option.bind_some _ _).symm.trans H;rw [hy268];with_reducible exact H2_)|(have H2_:=(Option.bind_some _ _).symm.trans H;with_reducible exact H2_)|with_reducible exact H|(rw [hy268];exact H)|exact H
       have Ny268:=Aside0.mk hy268
       clear hy268
       by_cases c33 : y268.length + l3.length < 17592186044416
       ·rw [if_pos c33] at H
        have LMc33:=Aside0.mk c33
        clear c33
        obtain ⟨y271,hy271⟩ : ∃ y_ : List Int,y_ = (y268 ++ l3):=⟨_,rfl⟩
        replace H : (if y271.length + l1.length < 17592186044416 then ((some (y271 ++ l1 : List Int)).bind fun y274=>(if y274.length + l4.length < 17592186044416 then ((some (y274 ++ l4 : List Int)).bind fun y277=>((some (([] : List Int) : List Int)).bind fun y280=>(if y280.length + l3.length < 17592186044416 then ((some (y280 ++ l3 : List Int)).bind fun y283=>(if y283.length + l2.length < 17592186044416 then ((some (y283 ++ l2 : List Int)).bind fun y286=>(if y286.length + l4.length < 17592186044416 then ((some (y286 ++ l4 : List Int)).bind fun y289=>(if t260 = true then ((coppicerkeep_good.f kj22 a0_0 a0_1 l0_2 a0_3 a0_4 y277).bind fun t292=>(if t292 = true then ((coppicerkeep_good.f kj22 a0_0 a0_1 l0_2 a0_3 a0_4 y289).bind fun t293=>(coppicerkeep_KindsSame.j2 kj22 y277 y289 (!t293) a0_0 a0_1 l0_2 a0_3 a0_4)) else (coppicerkeep_KindsSame.j2 kj22 y277 y289 true a0_0 a0_1 l0_2 a0_3 a0_4))) else (coppicerkeep_KindsSame.j2 kj22 y277 y289 true a0_0 a0_1 l0_2 a0_3 a0_4))) else (none))) else (none))) else (none)))) else (none))) else (none)) = some r:=by first|(rw [hy271];with_reducible exact H)|(have H2_:=(Option.bind_some _ _).symm.trans H;rw [hy271];with_reducible exact H2_)|(have H2_:=(Option.bind_some _ _).symm.trans H;with_reducible exact H2_)|with_reducible exact H|(rw [hy271];exact H)|exact H
        have Ny271:=Aside0.mk hy271
        clear hy271
        by_cases c34 : y271.length + l1.length < 17592186044416
        ·rw [if_pos c34] at H
         have LMc34:=Aside0.mk c34
         clear c34
         obtain ⟨y274,hy274⟩ : ∃ y_ : List Int,y_ = (y271 ++ l1):=⟨_,rfl⟩
         replace H : (if y274.length + l4.length < 17592186044416 then ((some (y274 ++ l4 : List Int)).bind fun y277=>((some (([] : List Int) : List Int)).bind fun y280=>(if y280.length + l3.length < 17592186044416 then ((some (y280 ++ l3 : List Int)).bind fun y283=>(if y283.length + l2.length < 17592186044416 then ((some (y283 ++ l2 : List Int)).bind fun y286=>(if y286.length + l4.length < 17592186044416 then ((some (y286 ++ l4 : List Int)).bind fun y289=>(if t260 = true then ((coppicerkeep_good.f kj22 a0_0 a0_1 l0_2 a0_3 a0_4 y277).bind fun t292=>(if t292 = true then ((coppicerkeep_good.f kj22 a0_0 a0_1 l0_2 a0_3 a0_4 y289).bind fun t293=>(coppicerkeep_KindsSame.j2 kj22 y277 y289 (!t293) a0_0 a0_1 l0_2 a0_3 a0_4)) else (coppicerkeep_KindsSame.j2 kj22 y277 y289 true a0_0 a0_1 l0_2 a0_3 a0_4))) else (coppicerkeep_KindsSame.j2 kj22 y277 y289 true a0_0 a0_1 l0_2 a0_3 a0_4))) else (none))) else (none))) else (none)))) else (none)) = some r:=by first|(rw [hy274];with_reducible exact H)|(have H2_:=(Option.bind_some _ _).symm.trans H;rw [hy274];with_reducible exact H2_)|(have H2_:=(Option.bind_some _ _).symm.trans H;with_reducible exact H2_)|with_reducible exact H|(rw [hy274];exact H)|exact H
         have Ny274:=Aside0.mk hy274
         clear hy274
         by_cases c35 : y274.length + l4.length < 17592186044416
         ·rw [if_pos c35] at H
          have LMc35:=Aside0.mk c35
          clear c35
          obtain ⟨y277,hy277⟩ : ∃ y_ : List Int,y_ = (y274 ++ l4):=⟨_,rfl⟩
          replace H : ((some (([] : List Int) : List Int)).bind fun y280=>(if y280.length + l3.length < 17592186044416 then ((some (y280 ++ l3 : List Int)).bind fun y283=>(if y283.length + l2.length < 17592186044416 then ((some (y283 ++ l2 : List Int)).bind fun y286=>(if y286.length + l4.length < 17592186044416 then ((some (y286 ++ l4 : List Int)).bind fun y289=>(if t260 = true then ((coppicerkeep_good.f kj22 a0_0 a0_1 l0_2 a0_3 a0_4 y277).bind fun t292=>(if t292 = true then ((coppicerkeep_good.f kj22 a0_0 a0_1 l0_2 a0_3 a0_4 y289).bind fun t293=>(coppicerkeep_KindsSame.j2 kj22 y277 y289 (!t293) a0_0 a0_1 l0_2 a0_3 a0_4)) else (coppicerkeep_KindsSame.j2 kj22 y277 y289 true a0_0 a0_1 l0_2 a0_3 a0_4))) else (coppicerkeep_KindsSame.j2 kj22 y277 y289 true a0_0 a0_1 l0_2 a0_3 a0_4))) else (none))) else (none))) else (none))) = some r:=by first|(rw [hy277];with_reducible exact H)|(have H2_:=(Option.bind_some _ _).symm.trans H;rw [hy277];with_reducible exact H2_)|(have H2_:=(Option.bind_some _ _).symm.trans H;with_reducible exact H2_)|with_reducible exact H|(rw [hy277];exact H)|exact H
          have Ny277:=Aside0.mk hy277
          clear hy277
          obtain ⟨y280,hy280⟩ : ∃ y_ : List Int,y_ = (([] : List Int)):=⟨_,rfl⟩
          replace H : (if y280.length + l3.length < 17592186044416 then ((some (y280 ++ l3 : List Int)).bind fun y283=>(if y283.length + l2.length < 17592186044416 then ((some (y283 ++ l2 : List Int)).bind fun y286=>(if y286.length + l4.length < 17592186044416 then ((some (y286 ++ l4 : List Int)).bind fun y289=>(if t260 = true then ((coppicerkeep_good.f kj22 a0_0 a0_1 l0_2 a0_3 a0_4 y277).bind fun t292=>(if t292 = true then ((coppicerkeep_good.f kj22 a0_0 a0_1 l0_2 a0_3 a0_4 y289).bind fun t293=>(coppicerkeep_KindsSame.j2 kj22 y277 y289 (!t293) a0_0 a0_1 l0_2 a0_3 a0_4)) else (coppicerkeep_KindsSame.j2 kj22 y277 y289 true a0_0 a0_1 l0_2 a0_3 a0_4))) else (coppicerkeep_KindsSame.j2 kj22 y277 y289 true a0_0 a0_1 l0_2 a0_3 a0_4))) else (none))) else (none))) else (none)) = some r:=by first|(rw [hy280];with_reducible exact H)|(have H2_:=(Option.bind_some _ _).symm.trans H;rw [hy280];with_reducible exact H2_)|(have H2_:=(Option.bind_some _ _).symm.trans H;with_reducible exact H2_)|with_reducible exact H|(rw [hy280];exact H)|exact H
          have Ny280:=Aside0.mk hy280
          clear hy280
          by_cases c36 : y280.length + l3.length < 17592186044416
          ·rw [if_pos c36] at H
           have LMc36:=Aside0.mk c36
           clear c36
           obtain ⟨y283,hy283⟩ : ∃ y_ : List Int,y_ = (y280 ++ l3):=⟨_,rfl⟩
           replace H : (if y283.length + l2.length < 17592186044416 then ((some (y283 ++ l2 : List Int)).bind fun y286=>(if y286.length + l4.length < 17592186044416 then ((some (y286 ++ l4 : List Int)).bind fun y289=>(if t260 = true then ((coppicerkeep_good.f kj22 a0_0 a0_1 l0_2 a0_3 a0_4 y277).bind fun t292=>(if t292 = true then ((coppicerkeep_good.f kj22 a0_0 a0_1 l0_2 a0_3 a0_4 y289).bind fun t293=>(coppicerkeep_KindsSame.j2 kj22 y277 y289 (!t293) a0_0 a0_1 l0_2 a0_3 a0_4)) else (coppicerkeep_KindsSame.j2 kj22 y277 y289 true a0_0 a0_1 l0_2 a0_3 a0_4))) else (coppicerkeep_KindsSame.j2 kj22 y277 y289 true a0_0 a0_1 l0_2 a0_3 a0_4))) else (none))) else (none)) = some r:=by first|(rw [hy283];with_reducible exact H)|(have H2_:=(Option.bind_some _ _).symm.trans H;rw [hy283];with_reducible exact H2_)|(have H2_:=(Option.bind_some _ _).symm.trans H;with_reducible exact H2_)|with_reducible exact H|(rw [hy283];exact H)|exact H
           have Ny283:=Aside0.mk hy283
           clear hy283
           by_cases c37 : y283.length + l2.length < 17592186044416
           ·rw [if_pos c37] at H
            have LMc37:=Aside0.mk c37
            clear c37
            obtain ⟨y286,hy286⟩ : ∃ y_ : List Int,y_ = (y283 ++ l2):=⟨_,rfl⟩
            replace H : (if y286.length + l4.length < 17592186044416 then ((some (y286 ++ l4 : List Int)).bind fun y289=>(if t260 = true then ((coppicerkeep_good.f kj22 a0_0 a0_1 l0_2 a0_3 a0_4 y277).bind fun t292=>(if t292 = true then ((coppicerkeep_good.f kj22 a0_0 a0_1 l0_2 a0_3 a0_4 y289).bind fun t293=>(coppicerkeep_KindsSame.j2 kj22 y277 y289 (!t293) a0_0 a0_1 l0_2 a0_3 a0_4)) else (coppicerkeep_KindsSame.j2 kj22 y277 y289 true a0_0 a0_1 l0_2 a0_3 a0_4))) else (coppicerkeep_KindsSame.j2 kj22 y277 y289 true a0_0 a0_1 l0_2 a0_3 a0_4))) else (none)) = some r:=by first|(rw [hy286];with_reducible exact H)|(have H2_:=(Option.bind_some _ _).symm.trans H;rw [hy286];with_reducible exact H2_)|(have H2_:=(Option.bind_some _ _).symm.trans H;with_reducible exact H2_)|with_reducible exact H|(rw [hy286];exact H)|exact H
            have Ny286:=Aside0.mk hy286
            clear hy286
            by_cases c38 : y286.length + l4.length < 17592186044416
            ·rw [if_pos c38] at H
             have LMc38:=Aside0.mk c38
             clear c38
             obtain ⟨y289,hy289⟩ : ∃ y_ : List Int,y_ = (y286 ++ l4):=⟨_,rfl⟩
             replace H : (if t260 = true then ((coppicerkeep_good.f kj22 a0_0 a0_1 l0_2 a0_3 a0_4 y277).bind fun t292=>(if t292 = true then ((coppicerkeep_good.f kj22 a0_0 a0_1 l0_2 a0_3 a0_4 y289).bind fun t293=>(coppicerkeep_KindsSame.j2 kj22 y277 y289 (!t293) a0_0 a0_1 l0_2 a0_3 a0_4)) else (coppicerkeep_KindsSame.j2 kj22 y277 y289 true a0_0 a0_1 l0_2 a0_3 a0_4))) else (coppicerkeep_KindsSame.j2 kj22 y277 y289 true a0_0 a0_1 l0_2 a0_3 a0_4)) = some r:=by first|(rw [hy289];with_reducible exact H)|(have H2_:=(Option.bind_some _ _).symm.trans H;rw [hy289];with_reducible exact H2_)|(have H2_:=(Option.bind_some _ _).symm.trans H;with_reducible exact H2_)|with_reducible exact H|(rw [hy289];exact H)|exact H
             have Ny289:=Aside0.mk hy289
             clear hy289
             have HC39:=Aside0.mk H
             clear H
             go_upto_region 10 with (first|((with_reducible refine gate_dst (N:=77) rfl ?_);refine Kd.R_lit (Kd.int .i64) _ 3 ?hg (N:=77) ?hd (xs:=([] : List Int)) (inner:=[]) (ok:=fun _=>True) (okp:=fun _=>True) ?hr ?hp (fun _ hk=>hk) trivial (Below.refl _ _) (Nat.le_refl _) (by simp) ?_;(case hd=>rfl);(case hg=>rfl);(case hr=>first|(go_simp;done)|(go_simp;rfl));(case hp=>exact (Reps.none _ _));intro v269 w40 ho41 hb hg_ hnew_;clear hg_ hnew_;(first|rw [← Ny268.out] at ho41|(simp only [Int.reduceToNat] at ho41;rw [← Ny268.out] at ho41));have n0_:=Aside0.mk (Kd.R_lower ho41 (below_size (by repeat (first|(with_reducible first|exact HB.out|apply below_alloc|apply pw_below_drewN|apply below_drew1|refine below_set ?_ GE259.out)|exact HB.out))));have n1_:=Aside0.mk (blk_below (g:=gb259) (o:=.cells #[.int .i64 a0_0,.int .i64 a0_1,.slice A0_2 l0_2.length c0_2,.int .i64 a0_3,.int .u32 a0_4] 25 (0,0)) (by (with_reducible repeat (first|refine blk_drewN ?_ _|refine blk_drew ?_|refine blk_alloc ?_ _));exact BK259.out) hb);have n2_:=Aside0.mk (below_step (by repeat (first|(with_reducible first|exact HB.out|apply below_alloc|apply pw_below_drewN|apply below_drew1|refine below_set ?_ GE259.out)|exact HB.out)) hb);clear BK259;clear HB;have HO270:=n0_;have BK259:=n1_;have HB:=n2_;clear n0_ n1_ n2_;clear hb ho41)|((with_reducible refine gate_builtin (b:=.append) (xs:=#[.tmp 77,.tmp 78]) rfl ?_);at_builtin;refine Kd.R_append_rows (Kd.int .i64) (w0:=w) w.heap.size rfl (.tmp 77) (.tmp 78) 26 3 (.int .i64 0) 8 rfl Try.underlying26 info3 rfl (by decide) (by omega) v269 y268 l3 _ _ _ (fun _=>True) (fun _=>False) rfl rfl ?aO ?aR (fun _ _ h=>h) (fun _ h=>h.elim) ?aF ?aB ?aS ?aL ?_;(case aR=>repeat (first|exact (Kd.C_below HR3.out HB.out)|(with_reducible refine Kd.C_alloc ?_ _)|(with_reducible refine Kd.C_drewN ?_ _)|(with_reducible refine Kd.C_drew ?_)));(case aB=>exact (by repeat (first|(with_reducible first|exact HB.out|apply below_alloc|apply pw_below_drewN|apply below_drew1|refine below_set ?_ GE259.out)|exact HB.out)));(case aF=>exact (fun _ _=>trivial));(case aO=>exact (by (with_reducible repeat (first|apply Kd.R_alloc|apply Kd.R_drewN|apply Kd.R_drew));exact HO270.out));(case aS=>exact (below_size (by repeat (first|(with_reducible first|exact HB.out|apply below_alloc|apply pw_below_drewN|apply below_drew1|refine below_set ?_ GE259.out)|exact HB.out))));(case aL=>have:=LMc33.out;omega);intro v272 w42 ho hb hg hat;rw [← Ny271.out] at ho;have n0_:=Aside0.mk (blk_grown (g:=gb259) (o:=.cells #[.int .i64 a0_0,.int .i64 a0_1,.slice A0_2 l0_2.length c0_2,.int .i64 a0_3,.int .u32 a0_4] 25 (0,0)) (by (with_reducible repeat (first|refine blk_drewN ?_ _|refine blk_drew ?_|refine blk_alloc ?_ _));exact BK259.out) hg (Kd.R_ne HO270.out BK259.out (by decide)));have n1_:=Aside0.mk (hb);have n2_:=Aside0.mk (ho);clear BK259;clear HB;clear HO270;have BK259:=n0_;have HB:=n1_;have HO273:=n2_;clear n0_ n1_ n2_;clear ho hb hg hat)|((with_reducible refine gate_builtin (b:=.append) (xs:=#[.tmp 79,.tmp 80]) rfl ?_);at_builtin;refine Kd.R_append_rows (Kd.int .i64) (w0:=w) w.heap.size rfl (.tmp 79) (.tmp 80) 26 3 (.int .i64 0) 8 rfl Try.underlying26 info3 rfl (by decide) (by omega) v272 y271 l1 _ _ _ (fun _=>True) (fun _=>False) rfl rfl ?aO ?aR (fun _ _ h=>h) (fun _ h=>h.elim) ?aF ?aB ?aS ?aL ?_;(case aR=>repeat (first|exact (Kd.C_below HR1.out HB.out)|(with_reducible refine Kd.C_alloc ?_ _)|(with_reducible refine Kd.C_drewN ?_ _)|(with_reducible refine Kd.C_drew ?_)));(case aB=>exact (by repeat (first|(with_reducible first|exact HB.out|apply below_alloc|apply pw_below_drewN|apply below_drew1|refine below_set ?_ GE259.out)|exact HB.out)));(case aF=>exact (fun _ _=>trivial));(case aO=>exact (by (with_reducible repeat (first|apply Kd.R_alloc|apply Kd.R_drewN|apply Kd.R_drew));exact HO273.out));(case aS=>exact (below_size (by repeat (first|(with_reducible first|exact HB.out|apply below_alloc|apply pw_below_drewN|apply below_drew1|refine below_set ?_ GE259.out)|exact HB.out))));(case aL=>have:=LMc34.out;omega);intro v275 w43 ho hb hg hat;rw [← Ny274.out] at ho;have n0_:=Aside0.mk (blk_grown (g:=gb259) (o:=.cells #[.int .i64 a0_0,.int .i64 a0_1,.slice A0_2 l0_2.length c0_2,.int .i64 a0_3,.int .u32 a0_4] 25 (0,0)) (by (with_reducible repeat (first|refine blk_drewN ?_ _|refine blk_drew ?_|refine blk_alloc ?_ _));exact BK259.out) hg (Kd.R_ne HO273.out BK259.out (by decide)));have n1_:=Aside0.mk (hb);have n2_:=Aside0.mk (ho);clear BK259;clear HB;clear HO273;have BK259:=n0_;have HB:=n1_;have HO276:=n2_;clear n0_ n1_ n2_;clear ho hb hg hat)|((with_reducible refine gate_builtin (b:=.append) (xs:=#[.tmp 81,.tmp 82]) rfl ?_);at_builtin;refine Kd.R_append_rows (Kd.int .i64) (w0:=w) w.heap.size rfl (.tmp 81) (.tmp 82) 26 3 (.int .i64 0) 8 rfl Try.underlying26 info3 rfl (by decide) (by omega) v275 y274 l4 _ _ _ (fun _=>True) (fun _=>False) rfl rfl ?aO ?aR (fun _ _ h=>h) (fun _ h=>h.elim) ?aF ?aB ?aS ?aL ?_;(case aR=>repeat (first|exact (Kd.C_below HR4.out HB.out)|(with_reducible refine Kd.C_alloc ?_ _)|(with_reducible refine Kd.C_drewN ?_ _)|(with_reducible refine Kd.C_drew ?_)));(case aB=>exact (by repeat (first|(with_reducible first|exact HB.out|apply below_alloc|apply pw_below_drewN|apply below_drew1|refine below_set ?_ GE259.out)|exact HB.out)));(case aF=>exact (fun _ _=>trivial));(case aO=>exact (by (with_reducible repeat (first|apply Kd.R_alloc|apply Kd.R_drewN|apply Kd.R_drew));exact HO276.out));(case aS=>exact (below_size (by repeat (first|(with_reducible first|exact HB.out|apply below_alloc|apply pw_below_drewN|apply below_drew1|refine below_set ?_ GE259.out)|exact HB.out))));(case aL=>have:=LMc35.out;omega);intro v278 w44 ho hb hg hat;rw [← Ny277.out] at ho;have n0_:=Aside0.mk (blk_grown (g:=gb259) (o:=.cells #[.int .i64 a0_0,.int .i64 a0_1,.slice A0_2 l0_2.length c0_2,.int .i64 a0_3,.int .u32 a0_4] 25 (0,0)) (by (with_reducible repeat (first|refine blk_drewN ?_ _|refine blk_drew ?_|refine blk_alloc ?_ _));exact BK259.out) hg (Kd.R_ne HO276.out BK259.out (by decide)));have n1_:=Aside0.mk (hb);have n2_:=Aside0.mk (ho);clear BK259;clear HB;clear HO276;have BK259:=n0_;have HB:=n1_;have HO279:=n2_;clear n0_ n1_ n2_;clear ho hb hg hat)|((with_reducible refine gate_dst (N:=84) rfl ?_);refine Kd.R_lit (Kd.int .i64) _ 3 ?hg (N:=84) ?hd (xs:=([] : List Int)) (inner:=[]) (ok:=fun _=>True) (okp:=fun _=>True) ?hr ?hp (fun _ hk=>hk) trivial (Below.refl _ _) (Nat.le_refl _) (by simp) ?_;(case hd=>rfl);(case hg=>rfl);(case hr=>first|(go_simp;done)|(go_simp;rfl));(case hp=>exact (Reps.none _ _));intro v281 w45 ho46 hb hg_ hnew_;clear hg_ hnew_;(first|rw [← Ny280.out] at ho46|(simp only [Int.reduceToNat] at ho46;rw [← Ny280.out] at ho46));have n0_:=Aside0.mk (Kd.R_elder' (by (with_reducible repeat (first|apply Kd.R_alloc|apply Kd.R_drewN|apply Kd.R_drew));exact HO279.out) (Kd.R_base ho46) hb);have n1_:=Aside0.mk (Kd.R_lower (Kd.R_new' ho46 (Kd.R_lt (by (with_reducible repeat (first|apply Kd.R_alloc|apply Kd.R_drewN|apply Kd.R_drew));exact HO279.out))) (below_size (by repeat (first|(with_reducible first|exact HB.out|apply below_alloc|apply pw_below_drewN|apply below_drew1|refine below_set ?_ GE259.out)|exact HB.out))));have n2_:=Aside0.mk (blk_below (g:=gb259) (o:=.cells #[.int .i64 a0_0,.int .i64 a0_1,.slice A0_2 l0_2.length c0_2,.int .i64 a0_3,.int .u32 a0_4] 25 (0,0)) (by (with_reducible repeat (first|refine blk_drewN ?_ _|refine blk_drew ?_|refine blk_alloc ?_ _));exact BK259.out) hb);have n3_:=Aside0.mk (below_step (by repeat (first|(with_reducible first|exact HB.out|apply below_alloc|apply pw_below_drewN|apply below_drew1|refine below_set ?_ GE259.out)|exact HB.out)) hb);clear HO279;clear BK259;clear HB;have HO279:=n0_;have HO282:=n1_;have BK259:=n2_;have HB:=n3_;clear n0_ n1_ n2_ n3_;clear hb ho46)|((with_reducible refine gate_builtin (b:=.append) (xs:=#[.tmp 84,.tmp 85]) rfl ?_);at_builtin;refine Kd.R_append_rows (Kd.int .i64) (w0:=w) w.heap.size rfl (.tmp 84) (.tmp 85) 26 3 (.int .i64 0) 8 rfl Try.underlying26 info3 rfl (by decide) (by omega) v281 y280 l3 _ _ _ (fun k_=>some k_ ≠ (v278 : Value).ownBlock) (fun _=>False) rfl rfl ?aO ?aR (fun _ _ h=>h) (fun _ h=>h.elim) ?aF ?aB ?aS ?aL ?_;(case aR=>repeat (first|exact (Kd.C_below HR3.out HB.out)|(with_reducible refine Kd.C_alloc ?_ _)|(with_reducible refine Kd.C_drewN ?_ _)|(with_reducible refine Kd.C_drew ?_)));(case aB=>exact (by repeat (first|(with_reducible first|exact HB.out|apply below_alloc|apply pw_below_drewN|apply below_drew1|refine below_set ?_ GE259.out)|exact HB.out)));(case aF=>exact (fun k_ hk=>Kd.fresh' (Kd.R_lt (by (with_reducible repeat (first|apply Kd.R_alloc|apply Kd.R_drewN|apply Kd.R_drew));exact HO279.out)) k_ hk));(case aO=>exact (by (with_reducible repeat (first|apply Kd.R_alloc|apply Kd.R_drewN|apply Kd.R_drew));exact Kd.R_mono HO282.out (fun _ hk=>hk.2)));(case aS=>exact (below_size (by repeat (first|(with_reducible first|exact HB.out|apply below_alloc|apply pw_below_drewN|apply below_drew1|refine below_set ?_ GE259.out)|exact HB.out))));(case aL=>have:=LMc36.out;omega);intro v284 w47 ho hb hg hat;rw [← Ny283.out] at ho;have n0_:=Aside0.mk (blk_grown (g:=gb259) (o:=.cells #[.int .i64 a0_0,.int .i64 a0_1,.slice A0_2 l0_2.length c0_2,.int .i64 a0_3,.int .u32 a0_4] 25 (0,0)) (by (with_reducible repeat (first|refine blk_drewN ?_ _|refine blk_drew ?_|refine blk_alloc ?_ _));exact BK259.out) hg (Kd.R_ne HO282.out BK259.out (by decide)));have n1_:=Aside0.mk (Kd.R_after (ok:=(fun _=>True)) (by (with_reducible repeat (first|apply Kd.R_alloc|apply Kd.R_drewN|apply Kd.R_drew));exact HO279.out) hg hat);have n2_:=Aside0.mk (hb);have n3_:=Aside0.mk (ho);clear BK259;clear HO279;clear HB;clear HO282;have BK259:=n0_;have HO279:=n1_;have HB:=n2_;have HO285:=n3_;clear n0_ n1_ n2_ n3_;clear ho hb hg hat)|((with_reducible refine gate_builtin (b:=.append) (xs:=#[.tmp 86,.tmp 87]) rfl ?_);at_builtin;refine Kd.R_append_rows (Kd.int .i64) (w0:=w) w.heap.size rfl (.tmp 86) (.tmp 87) 26 3 (.int .i64 0) 8 rfl Try.underlying26 info3 rfl (by decide) (by omega) v284 y283 l2 _ _ _ (fun k_=>some k_ ≠ (v278 : Value).ownBlock) (fun _=>False) rfl rfl ?aO ?aR (fun _ _ h=>h) (fun _ h=>h.elim) ?aF ?aB ?aS ?aL ?_;(case aR=>repeat (first|exact (Kd.C_below HR2.out HB.out)|(with_reducible refine Kd.C_alloc ?_ _)|(with_reducible refine Kd.C_drewN ?_ _)|(with_reducible refine Kd.C_drew ?_)));(case aB=>exact (by repeat (first|(with_reducible first|exact HB.out|apply below_alloc|apply pw_below_drewN|apply below_drew1|refine below_set ?_ GE259.out)|exact HB.out)));(case aF=>exact (fun k_ hk=>Kd.fresh' (Kd.R_lt (by (with_reducible repeat (first|apply Kd.R_alloc|apply Kd.R_drewN|apply Kd.R_drew));exact HO279.out)) k_ hk));(case aO=>exact (by (with_reducible repeat (first|apply Kd.R_alloc|apply Kd.R_drewN|apply Kd.R_drew));exact HO285.out));(case aS=>exact (below_size (by repeat (first|(with_reducible first|exact HB.out|apply below_alloc|apply pw_below_drewN|apply below_drew1|refine below_set ?_ GE259.out)|exact HB.out))));(case aL=>have:=LMc37.out;omega);intro v287 w48 ho hb hg hat;rw [← Ny286.out] at ho;have n0_:=Aside0.mk (blk_grown (g:=gb259) (o:=.cells #[.int .i64 a0_0,.int .i64 a0_1,.slice A0_2 l0_2.length c0_2,.int .i64 a0_3,.int .u32 a0_4] 25 (0,0)) (by (with_reducible repeat (first|refine blk_drewN ?_ _|refine blk_drew ?_|refine blk_alloc ?_ _));exact BK259.out) hg (Kd.R_ne HO285.out BK259.out (by decide)));have n1_:=Aside0.mk (Kd.R_after (ok:=(fun _=>True)) (by (with_reducible repeat (first|apply Kd.R_alloc|apply Kd.R_drewN|apply Kd.R_drew));exact HO279.out) hg hat);have n2_:=Aside0.mk (hb);have n3_:=Aside0.mk (ho);clear BK259;clear HO279;clear HB;clear HO285;have BK259:=n0_;have HO279:=n1_;have HB:=n2_;have HO288:=n3_;clear n0_ n1_ n2_ n3_;clear ho hb hg hat)|((with_reducible refine gate_builtin (b:=.append) (xs:=#[.tmp 88,.tmp 89]) rfl ?_);at_builtin;refine Kd.R_append_rows (Kd.int .i64) (w0:=w) w.heap.size rfl (.tmp 88) (.tmp 89) 26 3 (.int .i64 0) 8 rfl Try.underlying26 info3 rfl (by decide) (by omega) v287 y286 l4 _ _ _ (fun k_=>some k_ ≠ (v278 : Value).ownBlock) (fun _=>False) rfl rfl ?aO ?aR (fun _ _ h=>h) (fun _ h=>h.elim) ?aF ?aB ?aS ?aL ?_;(case aR=>repeat (first|exact (Kd.C_below HR4.out HB.out)|(with_reducible refine Kd.C_alloc ?_ _)|(with_reducible refine Kd.C_drewN ?_ _)|(with_reducible refine Kd.C_drew ?_)));(case aB=>exact (by repeat (first|(with_reducible first|exact HB.out|apply below_alloc|apply pw_below_drewN|apply below_drew1|refine below_set ?_ GE259.out)|exact HB.out)));(case aF=>exact (fun k_ hk=>Kd.fresh' (Kd.R_lt (by (with_reducible repeat (first|apply Kd.R_alloc|apply Kd.R_drewN|apply Kd.R_drew));exact HO279.out)) k_ hk));(case aO=>exact (by (with_reducible repeat (first|apply Kd.R_alloc|apply Kd.R_drewN|apply Kd.R_drew));exact HO288.out));(case aS=>exact (below_size (by repeat (first|(with_reducible first|exact HB.out|apply below_alloc|apply pw_below_drewN|apply below_drew1|refine below_set ?_ GE259.out)|exact HB.out))));(case aL=>have:=LMc38.out;omega);intro v290 w49 ho hb hg hat;rw [← Ny289.out] at ho;have n0_:=Aside0.mk (blk_grown (g:=gb259) (o:=.cells #[.int .i64 a0_0,.int .i64 a0_1,.slice A0_2 l0_2.length c0_2,.int .i64 a0_3,.int .u32 a0_4] 25 (0,0)) (by (with_reducible repeat (first|refine blk_drewN ?_ _|refine blk_drew ?_|refine blk_alloc ?_ _));exact BK259.out) hg (Kd.R_ne HO288.out BK259.out (by decide)));have n1_:=Aside0.mk (Kd.R_after (ok:=(fun _=>True)) (by (with_reducible repeat (first|apply Kd.R_alloc|apply Kd.R_drewN|apply Kd.R_drew));exact HO279.out) hg hat);have n2_:=Aside0.mk (hb);have n3_:=Aside0.mk (ho);clear BK259;clear HO279;clear HB;clear HO288;have BK259:=n0_;have HO279:=n1_;have HB:=n2_;have HO291:=n3_;clear n0_ n1_ n2_ n3_;clear ho hb hg hat))
             (try simp only [Act.put,List.setIfInBounds_toArray,List.set_cons_zero,List.set_cons_succ])
             go_cut [104] (fun v104 wc=>∃ (kq : Nat) (x104_38 : Bool),v104 = .bool x104_38 ∧ Aside0 (coppicerkeep_KindsSame.j2 kq y277 y289 x104_38 a0_0 a0_1 l0_2 a0_3 a0_4 = some r) ∧ Aside0 (kq ≤ kj22) ∧ Aside0 (Kd.R (Kd.int .i64) 3 wc w.heap.size (fun k_=>some k_ ≠ (v290 : Value).ownBlock) v278 y277) ∧ Aside0 (Kd.R (Kd.int .i64) 3 wc w.heap.size (fun k_=>some k_ ≠ (v278 : Value).ownBlock) v290 y289) ∧ Aside0 (wc.heap[gb259]? = some (.cells #[.int .i64 a0_0,.int .i64 a0_1,(.slice A0_2 l0_2.length c0_2),.int .i64 a0_3,.int .u32 a0_4] 25 (0,0))) ∧ Aside0 (Below w.heap.size w wc))
             case first =>
              have H:=HC39.out
              clear HC39
              by_cases c50 : t260 = true
              ·subst c50
               have H1 : ((coppicerkeep_good.f kj22 a0_0 a0_1 l0_2 a0_3 a0_4 y277).bind fun t292=>(if t292 = true then ((coppicerkeep_good.f kj22 a0_0 a0_1 l0_2 a0_3 a0_4 y289).bind fun t293=>(coppicerkeep_KindsSame.j2 kj22 y277 y289 (!t293) a0_0 a0_1 l0_2 a0_3 a0_4)) else (coppicerkeep_KindsSame.j2 kj22 y277 y289 true a0_0 a0_1 l0_2 a0_3 a0_4))) = some r:=by rw [if_pos rfl] at H;exact H
               clear H
               have H:=H1
               clear H1
               replace H:=Option.bind_eq_some_iff.mp H
               obtain ⟨t292,A510,H⟩:=H
               replace H : (if t292 = true then ((coppicerkeep_good.f kj22 a0_0 a0_1 l0_2 a0_3 a0_4 y289).bind fun t293=>(coppicerkeep_KindsSame.j2 kj22 y277 y289 (!t293) a0_0 a0_1 l0_2 a0_3 a0_4)) else (coppicerkeep_KindsSame.j2 kj22 y277 y289 true a0_0 a0_1 l0_2 a0_3 a0_4)) = some r:=H
               have A51:=Aside0.mk A510
               clear A510
               by_cases c52 : t292 = true
               ·subst c52
                have H1 : ((coppicerkeep_good.f kj22 a0_0 a0_1 l0_2 a0_3 a0_4 y289).bind fun t293=>(coppicerkeep_KindsSame.j2 kj22 y277 y289 (!t293) a0_0 a0_1 l0_2 a0_3 a0_4)) = some r:=by rw [if_pos rfl] at H;exact H
                clear H
                have H:=H1
                clear H1
                replace H:=Option.bind_eq_some_iff.mp H
                obtain ⟨t293,A530,H⟩:=H
                replace H : (coppicerkeep_KindsSame.j2 kj22 y277 y289 (!t293) a0_0 a0_1 l0_2 a0_3 a0_4) = some r:=H
                have A53:=Aside0.mk A530
                clear A530
                have H':=Aside0.mk H
                clear H
                have hcz54_0 : w49.cell? ⟨gb259,0,none⟩ = some (.int .i64 a0_0):=(blk_cell BK259.out 0).trans rfl
                have hcz54_1 : w49.cell? ⟨gb259,1,none⟩ = some (.int .i64 a0_1):=(blk_cell BK259.out 1).trans rfl
                have hcz54_2 : w49.cell? ⟨gb259,2,none⟩ = some (.slice A0_2 l0_2.length c0_2):=(blk_cell BK259.out 2).trans rfl
                have hcz54_3 : w49.cell? ⟨gb259,3,none⟩ = some (.int .i64 a0_3):=(blk_cell BK259.out 3).trans rfl
                have hcz54_4 : w49.cell? ⟨gb259,4,none⟩ = some (.int .u32 a0_4):=(blk_cell BK259.out 4).trans rfl
                have hfz54_0:=blk_frozen BK259.out 0
                have hfz54_1:=blk_frozen BK259.out 1
                have hfz54_2:=blk_frozen BK259.out 2
                have hfz54_3:=blk_frozen BK259.out 3
                have hfz54_4:=blk_frozen BK259.out 4
                obtain ⟨Ao55,co55,eo55⟩:=Kd.R_slice HO279.out
                subst eo55
                go_wp2_with (first|(go_at_call 6;(with_reducible refine (coppicerkeep_good.calls kj22 a0_0 a0_1 _ _ l0_2 a0_3 a0_4 _ _ y277 true _ ?side1 ?side2 ?side3 ?side4 A51.out).mono ?_);(case side1=>repeat (first|exact (Kd.C_below HR0_2.out HB.out)|(with_reducible refine Kd.C_alloc ?_ _)|(with_reducible refine Kd.C_drewN ?_ _)|(with_reducible refine Kd.C_drew ?_)));(case side2=>exact HC0_2.out);(case side3=>repeat (first|exact (Kd.R_reads' HO279.out).2.2|(with_reducible refine Kd.C_alloc ?_ _)|(with_reducible refine Kd.C_drewN ?_ _)|(with_reducible refine Kd.C_drew ?_)));(case side4=>exact (Kd.R_reads' HO279.out).2.1);rintro e w56 ⟨rfl,hb⟩;have n0_:=Aside0.mk (Kd.R_below (by (with_reducible repeat (first|apply Kd.R_alloc|apply Kd.R_drewN|apply Kd.R_drew));exact HO279.out) hb);have n1_:=Aside0.mk (Kd.R_below (by (with_reducible repeat (first|apply Kd.R_alloc|apply Kd.R_drewN|apply Kd.R_drew));exact HO291.out) hb);have n2_:=Aside0.mk (blk_below (g:=gb259) (o:=.cells #[.int .i64 a0_0,.int .i64 a0_1,.slice A0_2 l0_2.length c0_2,.int .i64 a0_3,.int .u32 a0_4] 25 (0,0)) (by (with_reducible repeat (first|refine blk_drewN ?_ _|refine blk_drew ?_|refine blk_alloc ?_ _));exact BK259.out) hb);have n3_:=Aside0.mk (below_step (by repeat (first|(with_reducible first|exact HB.out|apply below_alloc|apply pw_below_drewN|apply below_drew1|refine below_set ?_ GE259.out)|exact HB.out)) hb);clear HO279;clear HO291;clear BK259;clear HB;have HO279:=n0_;have HO291:=n1_;have BK259:=n2_;have HB:=n3_;clear n0_ n1_ n2_ n3_;(try clear hb);(try clear hb2);(try clear hk);(try clear hi);have hcz57_0 : w56.cell? ⟨gb259,0,none⟩ = some (.int .i64 a0_0):=(blk_cell BK259.out 0).trans rfl;have hcz57_1 : w56.cell? ⟨gb259,1,none⟩ = some (.int .i64 a0_1):=(blk_cell BK259.out 1).trans rfl;have hcz57_2 : w56.cell? ⟨gb259,2,none⟩ = some (.slice A0_2 l0_2.length c0_2):=(blk_cell BK259.out 2).trans rfl;have hcz57_3 : w56.cell? ⟨gb259,3,none⟩ = some (.int .i64 a0_3):=(blk_cell BK259.out 3).trans rfl;have hcz57_4 : w56.cell? ⟨gb259,4,none⟩ = some (.int .u32 a0_4):=(blk_cell BK259.out 4).trans rfl;have hfz57_0:=blk_frozen BK259.out 0;have hfz57_1:=blk_frozen BK259.out 1;have hfz57_2:=blk_frozen BK259.out 2;have hfz57_3:=blk_frozen BK259.out 3;have hfz57_4:=blk_frozen BK259.out 4;obtain ⟨Ao58,co58,eo58⟩:=Kd.R_slice HO291.out;subst eo58)|(go_at_call 6;(with_reducible refine (coppicerkeep_good.calls kj22 a0_0 a0_1 _ _ l0_2 a0_3 a0_4 _ _ y289 t293 _ ?side1 ?side2 ?side3 ?side4 A53.out).mono ?_);(case side1=>repeat (first|exact (Kd.C_below HR0_2.out HB.out)|(with_reducible refine Kd.C_alloc ?_ _)|(with_reducible refine Kd.C_drewN ?_ _)|(with_reducible refine Kd.C_drew ?_)));(case side2=>exact HC0_2.out);(case side3=>repeat (first|exact (Kd.R_reads' HO291.out).2.2|(with_reducible refine Kd.C_alloc ?_ _)|(with_reducible refine Kd.C_drewN ?_ _)|(with_reducible refine Kd.C_drew ?_)));(case side4=>exact (Kd.R_reads' HO291.out).2.1);rintro e w59 ⟨rfl,hb⟩;have n0_:=Aside0.mk (Kd.R_below (by (with_reducible repeat (first|apply Kd.R_alloc|apply Kd.R_drewN|apply Kd.R_drew));exact HO279.out) hb);have n1_:=Aside0.mk (Kd.R_below (by (with_reducible repeat (first|apply Kd.R_alloc|apply Kd.R_drewN|apply Kd.R_drew));exact HO291.out) hb);have n2_:=Aside0.mk (blk_below (g:=gb259) (o:=.cells #[.int .i64 a0_0,.int .i64 a0_1,.slice A0_2 l0_2.length c0_2,.int .i64 a0_3,.int .u32 a0_4] 25 (0,0)) (by (with_reducible repeat (first|refine blk_drewN ?_ _|refine blk_drew ?_|refine blk_alloc ?_ _));exact BK259.out) hb);have n3_:=Aside0.mk (below_step (by repeat (first|(with_reducible first|exact HB.out|apply below_alloc|apply pw_below_drewN|apply below_drew1|refine below_set ?_ GE259.out)|exact HB.out)) hb);clear HO279;clear HO291;clear BK259;clear HB;have HO279:=n0_;have HO291:=n1_;have BK259:=n2_;have HB:=n3_;clear n0_ n1_ n2_ n3_;(try clear hb);(try clear hb2);(try clear hk);(try clear hi)))
                go_meet
                case rel=>exact ⟨_,(!t293),(by first|rfl|(simp;done)|(simp [*];done)),H',⟨by have:=HJ6.out;have:=HJ22.out;first|omega|exact Nat.le_refl _⟩,⟨by (with_reducible repeat (first|apply Kd.R_alloc|apply Kd.R_drewN|apply Kd.R_drew));exact Kd.R_mono HO279.out (fun _ hk=>hk.2)⟩,⟨by (with_reducible repeat (first|apply Kd.R_alloc|apply Kd.R_drewN|apply Kd.R_drew));exact HO291.out⟩,⟨by (with_reducible repeat (first|refine blk_drewN ?_ _|refine blk_drew ?_|refine blk_alloc ?_ _));exact BK259.out⟩,⟨by repeat (first|(with_reducible first|exact HB.out|apply below_alloc|apply pw_below_drewN|apply below_drew1|refine below_set ?_ GE259.out)|exact HB.out)⟩⟩
               ·replace c52:=Bool.eq_false_iff.mpr c52
                subst c52
                have H1 : (coppicerkeep_KindsSame.j2 kj22 y277 y289 true a0_0 a0_1 l0_2 a0_3 a0_4) = some r:=by rw [if_neg (show ¬ (false = true) by decide)] at H;exact H
                clear H
                have H:=H1
                clear H1
                have H':=Aside0.mk H
                clear H
                have hcz60_0 : w49.cell? ⟨gb259,0,none⟩ = some (.int .i64 a0_0):=(blk_cell BK259.out 0).trans rfl
                have hcz60_1 : w49.cell? ⟨gb259,1,none⟩ = some (.int .i64 a0_1):=(blk_cell BK259.out 1).trans rfl
                have hcz60_2 : w49.cell? ⟨gb259,2,none⟩ = some (.slice A0_2 l0_2.length c0_2):=(blk_cell BK259.out 2).trans rfl
                have hcz60_3 : w49.cell? ⟨gb259,3,none⟩ = some (.int .i64 a0_3):=(blk_cell BK259.out 3).trans rfl
                have hcz60_4 : w49.cell? ⟨gb259,4,none⟩ = some (.int .u32 a0_4):=(blk_cell BK259.out 4).trans rfl
                have hfz60_0:=blk_frozen BK259.out 0
                have hfz60_1:=blk_frozen BK259.out 1
                have hfz60_2:=blk_frozen BK259.out 2
                have hfz60_3:=blk_frozen BK259.out 3
                have hfz60_4:=blk_frozen BK259.out 4
                obtain ⟨Ao61,co61,eo61⟩:=Kd.R_slice HO279.out
                subst eo61
                go_wp2_with (first|(go_at_call 6;(with_reducible refine (coppicerkeep_good.calls kj22 a0_0 a0_1 _ _ l0_2 a0_3 a0_4 _ _ y277 false _ ?side1 ?side2 ?side3 ?side4 A51.out).mono ?_);(case side1=>repeat (first|exact (Kd.C_below HR0_2.out HB.out)|(with_reducible refine Kd.C_alloc ?_ _)|(with_reducible refine Kd.C_drewN ?_ _)|(with_reducible refine Kd.C_drew ?_)));(case side2=>exact HC0_2.out);(case side3=>repeat (first|exact (Kd.R_reads' HO279.out).2.2|(with_reducible refine Kd.C_alloc ?_ _)|(with_reducible refine Kd.C_drewN ?_ _)|(with_reducible refine Kd.C_drew ?_)));(case side4=>exact (Kd.R_reads' HO279.out).2.1);rintro e w62 ⟨rfl,hb⟩;have n0_:=Aside0.mk (Kd.R_below (by (with_reducible repeat (first|apply Kd.R_alloc|apply Kd.R_drewN|apply Kd.R_drew));exact HO279.out) hb);have n1_:=Aside0.mk (Kd.R_below (by (with_reducible repeat (first|apply Kd.R_alloc|apply Kd.R_drewN|apply Kd.R_drew));exact HO291.out) hb);have n2_:=Aside0.mk (blk_below (g:=gb259) (o:=.cells #[.int .i64 a0_0,.int .i64 a0_1,.slice A0_2 l0_2.length c0_2,.int .i64 a0_3,.int .u32 a0_4] 25 (0,0)) (by (with_reducible repeat (first|refine blk_drewN ?_ _|refine blk_drew ?_|refine blk_alloc ?_ _));exact BK259.out) hb);have n3_:=Aside0.mk (below_step (by repeat (first|(with_reducible first|exact HB.out|apply below_alloc|apply pw_below_drewN|apply below_drew1|refine below_set ?_ GE259.out)|exact HB.out)) hb);clear HO279;clear HO291;clear BK259;clear HB;have HO279:=n0_;have HO291:=n1_;have BK259:=n2_;have HB:=n3_;clear n0_ n1_ n2_ n3_;(try clear hb);(try clear hb2);(try clear hk);(try clear hi)))
                go_meet
                case rel=>exact ⟨_,(true),(by first|rfl|(simp;done)|(simp [*];done)),H',⟨by have:=HJ6.out;have:=HJ22.out;first|omega|exact Nat.le_refl _⟩,⟨by (with_reducible repeat (first|apply Kd.R_alloc|apply Kd.R_drewN|apply Kd.R_drew));exact Kd.R_mono HO279.out (fun _ hk=>hk.2)⟩,⟨by (with_reducible repeat (first|apply Kd.R_alloc|apply Kd.R_drewN|apply Kd.R_drew));exact HO291.out⟩,⟨by (with_reducible repeat (first|refine blk_drewN ?_ _|refine blk_drew ?_|refine blk_alloc ?_ _));exact BK259.out⟩,⟨by repeat (first|(with_reducible first|exact HB.out|apply below_alloc|apply pw_below_drewN|apply below_drew1|refine below_set ?_ GE259.out)|exact HB.out)⟩⟩
              ·replace c50:=Bool.eq_false_iff.mpr c50
               subst c50
               have H1 : (coppicerkeep_KindsSame.j2 kj22 y277 y289 true a0_0 a0_1 l0_2 a0_3 a0_4) = some r:=by rw [if_neg (show ¬ (false = true) by decide)] at H;exact H
               clear H
               have H:=H1
               clear H1
               have H':=Aside0.mk H
               clear H
               go_wp2
               go_meet
               case rel=>exact ⟨_,(true),(by first|rfl|(simp;done)|(simp [*];done)),H',⟨by have:=HJ6.out;have:=HJ22.out;first|omega|exact Nat.le_refl _⟩,⟨by (with_reducible repeat (first|apply Kd.R_alloc|apply Kd.R_drewN|apply Kd.R_drew));exact Kd.R_mono HO279.out (fun _ hk=>hk.2)⟩,⟨by (with_reducible repeat (first|apply Kd.R_alloc|apply Kd.R_drewN|apply Kd.R_drew));exact HO291.out⟩,⟨by (with_reducible repeat (first|refine blk_drewN ?_ _|refine blk_drew ?_|refine blk_alloc ?_ _));exact BK259.out⟩,⟨by repeat (first|(with_reducible first|exact HB.out|apply below_alloc|apply pw_below_drewN|apply below_drew1|refine below_set ?_ GE259.out)|exact HB.out)⟩⟩
             case rest =>
              clear HC39
              try clear c1
              try clear c2
              try clear p2
              try clear c3
              try clear c4
              try clear c5
              try clear c6
              try clear c12
              try clear c20
              try clear c28
              try clear c28b0
              try clear c28b1
              try clear c29
              try clear c29b0
              try clear c29b1
              try clear c30
              try clear c30b0
              try clear c30b1
              try clear c31
              try clear c32
              try clear c33
              try clear c34
              try clear c35
              try clear c36
              try clear c37
              try clear c38
              try clear c50
              try clear c52
              try clear hcz14_0
              try clear hcz14_1
              try clear hcz14_2
              try clear hcz14_3
              try clear hcz14_4
              try clear hcz16_0
              try clear hcz16_1
              try clear hcz16_2
              try clear hcz16_3
              try clear hcz16_4
              try clear hcz18_0
              try clear hcz18_1
              try clear hcz18_2
              try clear hcz18_3
              try clear hcz18_4
              try clear hcz24_0
              try clear hcz24_1
              try clear hcz24_2
              try clear hcz24_3
              try clear hcz24_4
              try clear hcz26_0
              try clear hcz26_1
              try clear hcz26_2
              try clear hcz26_3
              try clear hcz26_4
              try clear hcz54_0
              try clear hcz54_1
              try clear hcz54_2
              try clear hcz54_3
              try clear hcz54_4
              try clear hcz57_0
              try clear hcz57_1
              try clear hcz57_2
              try clear hcz57_3
              try clear hcz57_4
              try clear hcz60_0
              try clear hcz60_1
              try clear hcz60_2
              try clear hcz60_3
              try clear hcz60_4
              try clear hcz9_0
              try clear hcz9_1
              try clear hcz9_2
              try clear hcz9_3
              try clear hcz9_4
              try clear hfz14_0
              try clear hfz14_1
              try clear hfz14_2
              try clear hfz14_3
              try clear hfz14_4
              try clear hfz16_0
              try clear hfz16_1
              try clear hfz16_2
              try clear hfz16_3
              try clear hfz16_4
              try clear hfz18_0
              try clear hfz18_1
              try clear hfz18_2
              try clear hfz18_3
              try clear hfz18_4
              try clear hfz24_0
              try clear hfz24_1
              try clear hfz24_2
              try clear hfz24_3
              try clear hfz24_4
              try clear hfz26_0
              try clear hfz26_1
              try clear hfz26_2
              try clear hfz26_3
              try clear hfz26_4
              try clear hfz54_0
              try clear hfz54_1
              try clear hfz54_2
              try clear hfz54_3
              try clear hfz54_4
              try clear hfz57_0
              try clear hfz57_1
              try clear hfz57_2
              try clear hfz57_3
              try clear hfz57_4
              try clear hfz60_0
              try clear hfz60_1
              try clear hfz60_2
              try clear hfz60_3
              try clear hfz60_4
              try clear hfz9_0
              try clear hfz9_1
              try clear hfz9_2
              try clear hfz9_3
              try clear hfz9_4
              try clear p2
              obtain ⟨kq,x104_38,rfl,HA,HJ38,HO_17,HO_18,BK259,HB⟩:=hcut
              cases kq with
              | zero=>exact absurd HA.out (by simp [coppicerkeep_KindsSame.j2])
              | succ kj38 =>
               have H:=HA.out
               clear HA
               simp only [coppicerkeep_KindsSame.j2] at H
               by_cases c63 : x104_38 = true
               ·subst c63
                have H1 : (some true) = some r:=by rw [if_pos rfl] at H;exact H
                clear H
                have H:=H1
                clear H1
                obtain rfl:=Option.some.inj H
                go_wp2
                go_ret
                exact ⟨by first|rfl|(simp [errW_none,errW_some] <;> rfl)|(simp [*,errW_none,errW_some] <;> rfl),by repeat (first|(with_reducible first|exact HB.out|apply below_alloc|apply pw_below_drewN|apply below_drew1|refine below_set ?_ GE259.out)|exact HB.out)⟩
               ·replace c63:=Bool.eq_false_iff.mpr c63
                subst c63
                have H1 : ((machine_Run.f kj38 a0_0 a0_1 l0_2 a0_3 a0_4 y277).bind fun bt294=>((machine_Run.f kj38 a0_0 a0_1 l0_2 a0_3 a0_4 y289).bind fun bt297=>((kinds_Same.f kj38 a0_0 a0_1 l0_2 a0_3 a0_4 y277 y289).bind fun bt300=>(if bt294.2.2 = 0 then (if bt297.2.2 = 0 then (if bt300.2 = 0 then (if (bt294.2.1 == bt297.2.1) = true then (some bt300.1) else (some false)) else (some false)) else (some false)) else (some false))))) = some r:=by rw [if_neg (show ¬ (false = true) by decide)] at H;exact H
                clear H
                have H:=H1
                clear H1
                replace H:=Option.bind_eq_some_iff.mp H
                obtain ⟨⟨t294,t295,t296⟩,A640,H⟩:=H
                replace H : ((machine_Run.f kj38 a0_0 a0_1 l0_2 a0_3 a0_4 y289).bind fun bt297=>((kinds_Same.f kj38 a0_0 a0_1 l0_2 a0_3 a0_4 y277 y289).bind fun bt300=>(if t296 = 0 then (if bt297.2.2 = 0 then (if bt300.2 = 0 then (if (t295 == bt297.2.1) = true then (some bt300.1) else (some false)) else (some false)) else (some false)) else (some false)))) = some r:=H
                have A64:=Aside0.mk A640
                clear A640
                replace H:=Option.bind_eq_some_iff.mp H
                obtain ⟨⟨t297,t298,t299⟩,A650,H⟩:=H
                replace H : ((kinds_Same.f kj38 a0_0 a0_1 l0_2 a0_3 a0_4 y277 y289).bind fun bt300=>(if t296 = 0 then (if t299 = 0 then (if bt300.2 = 0 then (if (t295 == t298) = true then (some bt300.1) else (some false)) else (some false)) else (some false)) else (some false))) = some r:=H
                have A65:=Aside0.mk A650
                clear A650
                replace H:=Option.bind_eq_some_iff.mp H
                obtain ⟨⟨t300,t301⟩,A660,H⟩:=H
                replace H : (if t296 = 0 then (if t299 = 0 then (if t301 = 0 then (if (t295 == t298) = true then (some t300) else (some false)) else (some false)) else (some false)) else (some false)) = some r:=H
                have A66:=Aside0.mk A660
                clear A660
                by_cases c67 : t296 = 0
                ·rw [if_pos c67] at H
                 have c67b0 : (t296 == 0) = true:=beq_iff_eq.mpr c67
                 have c67b1 : (t296 != 0) = false:=bne_eq_false_iff_eq.mpr c67
                 clear c67
                 by_cases c68 : t299 = 0
                 ·rw [if_pos c68] at H
                  have c68b0 : (t299 == 0) = true:=beq_iff_eq.mpr c68
                  have c68b1 : (t299 != 0) = false:=bne_eq_false_iff_eq.mpr c68
                  clear c68
                  by_cases c69 : t301 = 0
                  ·rw [if_pos c69] at H
                   have c69b0 : (t301 == 0) = true:=beq_iff_eq.mpr c69
                   have c69b1 : (t301 != 0) = false:=bne_eq_false_iff_eq.mpr c69
                   clear c69
                   by_cases c70 : (t295 == t298) = true
                   ·rw [if_pos c70] at H
                    have c70b0 : (t295 == t298) = true:=c70
                    (try (have c70b1 : decide (t295 = t298) = true:=by simpa using c70))
                    (try (have c70b2 : (t295 == t298) = true:=by simpa using c70))
                    clear c70
                    obtain rfl:=Option.some.inj H
                    have hcz71_0 : wc.cell? ⟨gb259,0,none⟩ = some (.int .i64 a0_0):=(blk_cell BK259.out 0).trans rfl
                    have hcz71_1 : wc.cell? ⟨gb259,1,none⟩ = some (.int .i64 a0_1):=(blk_cell BK259.out 1).trans rfl
                    have hcz71_2 : wc.cell? ⟨gb259,2,none⟩ = some (.slice A0_2 l0_2.length c0_2):=(blk_cell BK259.out 2).trans rfl
                    have hcz71_3 : wc.cell? ⟨gb259,3,none⟩ = some (.int .i64 a0_3):=(blk_cell BK259.out 3).trans rfl
                    have hcz71_4 : wc.cell? ⟨gb259,4,none⟩ = some (.int .u32 a0_4):=(blk_cell BK259.out 4).trans rfl
                    have hfz71_0:=blk_frozen BK259.out 0
                    have hfz71_1:=blk_frozen BK259.out 1
                    have hfz71_2:=blk_frozen BK259.out 2
                    have hfz71_3:=blk_frozen BK259.out 3
                    have hfz71_4:=blk_frozen BK259.out 4
                    obtain ⟨Ao72,co72,eo72⟩:=Kd.R_slice HO_17.out
                    subst eo72
                    go_wp2_with (first|((with_reducible refine gate_callee (f:=7) rfl ?_);refine goesL_ (some 108) rfl rfl Try.func7 (by kernel_rfl) rfl #[.agg #[.int .i64 a0_0,.int .i64 a0_1,.slice A0_2 l0_2.length c0_2,.int .i64 a0_3,.int .u32 a0_4],.slice Ao72 y277.length co72] rfl (by (try simp only [List.map_toArray,List.map_cons,List.map_nil]);first|done|rfl|(simp only [List.length_drop,List.length_take];rfl)) ?_;(with_reducible refine (machine_Run.calls kj38 a0_0 a0_1 _ _ l0_2 a0_3 a0_4 _ _ y277 t294 t295 t296 _ ?side1 ?side2 ?side3 ?side4 A64.out).mono ?_);(case side1=>repeat (first|exact (Kd.C_below HR0_2.out HB.out)|(with_reducible refine Kd.C_alloc ?_ _)|(with_reducible refine Kd.C_drewN ?_ _)|(with_reducible refine Kd.C_drew ?_)));(case side2=>exact HC0_2.out);(case side3=>repeat (first|exact (Kd.R_reads' HO_17.out).2.2|(with_reducible refine Kd.C_alloc ?_ _)|(with_reducible refine Kd.C_drewN ?_ _)|(with_reducible refine Kd.C_drew ?_)));(case side4=>exact (Kd.R_reads' HO_17.out).2.1);rintro e w73 ⟨rfl,hb⟩;refine ⟨_,rfl,?_⟩;have n0_:=Aside0.mk (Kd.R_below (by (with_reducible repeat (first|apply Kd.R_alloc|apply Kd.R_drewN|apply Kd.R_drew));exact HO_17.out) hb);have n1_:=Aside0.mk (Kd.R_below (by (with_reducible repeat (first|apply Kd.R_alloc|apply Kd.R_drewN|apply Kd.R_drew));exact HO_18.out) hb);have n2_:=Aside0.mk (blk_below (g:=gb259) (o:=.cells #[.int .i64 a0_0,.int .i64 a0_1,.slice A0_2 l0_2.length c0_2,.int .i64 a0_3,.int .u32 a0_4] 25 (0,0)) (by (with_reducible repeat (first|refine blk_drewN ?_ _|refine blk_drew ?_|refine blk_alloc ?_ _));exact BK259.out) hb);have n3_:=Aside0.mk (below_step (by repeat (first|(with_reducible first|exact HB.out|apply below_alloc|apply pw_below_drewN|apply below_drew1|refine below_set ?_ GE259.out)|exact HB.out)) hb);clear HO_17;clear HO_18;clear BK259;clear HB;have HO_17:=n0_;have HO_18:=n1_;have BK259:=n2_;have HB:=n3_;clear n0_ n1_ n2_ n3_;(try clear hb);(try clear hb2);(try clear hk);(try clear hi);have hcz74_0 : w73.cell? ⟨gb259,0,none⟩ = some (.int .i64 a0_0):=(blk_cell BK259.out 0).trans rfl;have hcz74_1 : w73.cell? ⟨gb259,1,none⟩ = some (.int .i64 a0_1):=(blk_cell BK259.out 1).trans rfl;have hcz74_2 : w73.cell? ⟨gb259,2,none⟩ = some (.slice A0_2 l0_2.length c0_2):=(blk_cell BK259.out 2).trans rfl;have hcz74_3 : w73.cell? ⟨gb259,3,none⟩ = some (.int .i64 a0_3):=(blk_cell BK259.out 3).trans rfl;have hcz74_4 : w73.cell? ⟨gb259,4,none⟩ = some (.int .u32 a0_4):=(blk_cell BK259.out 4).trans rfl;have hfz74_0:=blk_frozen BK259.out 0;have hfz74_1:=blk_frozen BK259.out 1;have hfz74_2:=blk_frozen BK259.out 2;have hfz74_3:=blk_frozen BK259.out 3;have hfz74_4:=blk_frozen BK259.out 4;obtain ⟨Ao75,co75,eo75⟩:=Kd.R_slice HO_18.out;subst eo75)|((with_reducible refine gate_callee (f:=7) rfl ?_);refine goesL_ (some 115) rfl rfl Try.func7 (by kernel_rfl) rfl #[.agg #[.int .i64 a0_0,.int .i64 a0_1,.slice A0_2 l0_2.length c0_2,.int .i64 a0_3,.int .u32 a0_4],.slice Ao75 y289.length co75] rfl (by (try simp only [List.map_toArray,List.map_cons,List.map_nil]);first|done|rfl|(simp only [List.length_drop,List.length_take];rfl)) ?_;(with_reducible refine (machine_Run.calls kj38 a0_0 a0_1 _ _ l0_2 a0_3 a0_4 _ _ y289 t297 t298 t299 _ ?side1 ?side2 ?side3 ?side4 A65.out).mono ?_);(case side1=>repeat (first|exact (Kd.C_below HR0_2.out HB.out)|(with_reducible refine Kd.C_alloc ?_ _)|(with_reducible refine Kd.C_drewN ?_ _)|(with_reducible refine Kd.C_drew ?_)));(case side2=>exact HC0_2.out);(case side3=>repeat (first|exact (Kd.R_reads' HO_18.out).2.2|(with_reducible refine Kd.C_alloc ?_ _)|(with_reducible refine Kd.C_drewN ?_ _)|(with_reducible refine Kd.C_drew ?_)));(case side4=>exact (Kd.R_reads' HO_18.out).2.1);rintro e w76 ⟨rfl,hb⟩;refine ⟨_,rfl,?_⟩;have n0_:=Aside0.mk (Kd.R_below (by (with_reducible repeat (first|apply Kd.R_alloc|apply Kd.R_drewN|apply Kd.R_drew));exact HO_17.out) hb);have n1_:=Aside0.mk (Kd.R_below (by (with_reducible repeat (first|apply Kd.R_alloc|apply Kd.R_drewN|apply Kd.R_drew));exact HO_18.out) hb);have n2_:=Aside0.mk (blk_below (g:=gb259) (o:=.cells #[.int .i64 a0_0,.int .i64 a0_1,.slice A0_2 l0_2.length c0_2,.int .i64 a0_3,.int .u32 a0_4] 25 (0,0)) (by (with_reducible repeat (first|refine blk_drewN ?_ _|refine blk_drew ?_|refine blk_alloc ?_ _));exact BK259.out) hb);have n3_:=Aside0.mk (below_step (by repeat (first|(with_reducible first|exact HB.out|apply below_alloc|apply pw_below_drewN|apply below_drew1|refine below_set ?_ GE259.out)|exact HB.out)) hb);clear HO_17;clear HO_18;clear BK259;clear HB;have HO_17:=n0_;have HO_18:=n1_;have BK259:=n2_;have HB:=n3_;clear n0_ n1_ n2_ n3_;(try clear hb);(try clear hb2);(try clear hk);(try clear hi);have hcz77_0 : w76.cell? ⟨gb259,0,none⟩ = some (.int .i64 a0_0):=(blk_cell BK259.out 0).trans rfl;have hcz77_1 : w76.cell? ⟨gb259,1,none⟩ = some (.int .i64 a0_1):=(blk_cell BK259.out 1).trans rfl;have hcz77_2 : w76.cell? ⟨gb259,2,none⟩ = some (.slice A0_2 l0_2.length c0_2):=(blk_cell BK259.out 2).trans rfl;have hcz77_3 : w76.cell? ⟨gb259,3,none⟩ = some (.int .i64 a0_3):=(blk_cell BK259.out 3).trans rfl;have hcz77_4 : w76.cell? ⟨gb259,4,none⟩ = some (.int .u32 a0_4):=(blk_cell BK259.out 4).trans rfl;have hfz77_0:=blk_frozen BK259.out 0;have hfz77_1:=blk_frozen BK259.out 1;have hfz77_2:=blk_frozen BK259.out 2;have hfz77_3:=blk_frozen BK259.out 3;have hfz77_4:=blk_frozen BK259.out 4)|((with_reducible refine gate_callee (f:=5) rfl ?_);refine goesL_ (some 123) rfl rfl Try.func5 (by kernel_rfl) rfl #[.agg #[.int .i64 a0_0,.int .i64 a0_1,.slice A0_2 l0_2.length c0_2,.int .i64 a0_3,.int .u32 a0_4],.slice Ao72 y277.length co72,.slice Ao75 y289.length co75] rfl (by (try simp only [List.map_toArray,List.map_cons,List.map_nil]);first|done|rfl|(simp only [List.length_drop,List.length_take];rfl)) ?_;(with_reducible refine (kinds_Same.calls kj38 a0_0 a0_1 _ _ l0_2 a0_3 a0_4 (fun k_=>some k_ = (.slice Ao72 y277.length co72 : Value).ownBlock) _ _ y277 (fun k_=>some k_ = (.slice Ao75 y289.length co75 : Value).ownBlock) _ _ y289 t300 t301 _ ?side1 ?side2 ?side3 ?side4 A66.out).mono ?_);(case side1=>repeat (first|exact (Kd.C_below HR0_2.out HB.out)|(with_reducible refine Kd.C_alloc ?_ _)|(with_reducible refine Kd.C_drewN ?_ _)|(with_reducible refine Kd.C_drew ?_)));(case side2=>exact HC0_2.out);(case side3=>exact Kd.R_V (Kd.R_tight rfl (Kd.R_types (HO_17.out) BK259.out (by decide))));(case side4=>exact Kd.R_V (Kd.R_tight rfl (Kd.R_types (HO_18.out) BK259.out (by decide))));rintro e w78 ⟨rfl,hb⟩;refine ⟨_,rfl,?_⟩;have n0_:=Aside0.mk (Kd.R_below (by (with_reducible repeat (first|apply Kd.R_alloc|apply Kd.R_drewN|apply Kd.R_drew));exact HO_17.out) hb);have n1_:=Aside0.mk (Kd.R_below (by (with_reducible repeat (first|apply Kd.R_alloc|apply Kd.R_drewN|apply Kd.R_drew));exact HO_18.out) hb);have n2_:=Aside0.mk (blk_below (g:=gb259) (o:=.cells #[.int .i64 a0_0,.int .i64 a0_1,.slice A0_2 l0_2.length c0_2,.int .i64 a0_3,.int .u32 a0_4] 25 (0,0)) (by (with_reducible repeat (first|refine blk_drewN ?_ _|refine blk_drew ?_|refine blk_alloc ?_ _));exact BK259.out) hb);have n3_:=Aside0.mk (below_step (by repeat (first|(with_reducible first|exact HB.out|apply below_alloc|apply pw_below_drewN|apply below_drew1|refine below_set ?_ GE259.out)|exact HB.out)) hb);clear HO_17;clear HO_18;clear BK259;clear HB;have HO_17:=n0_;have HO_18:=n1_;have BK259:=n2_;have HB:=n3_;clear n0_ n1_ n2_ n3_;(try clear hb);(try clear hb2);(try clear hk);(try clear hi)))
                    go_ret
                    exact ⟨by first|rfl|(simp [errW_none,errW_some] <;> rfl)|(simp [*,errW_none,errW_some] <;> rfl),by repeat (first|(with_reducible first|exact HB.out|apply below_alloc|apply pw_below_drewN|apply below_drew1|refine below_set ?_ GE259.out)|exact HB.out)⟩
                   ·rw [if_neg c70] at H
                    have c70b0 : (t295 == t298) = false:=by simpa using c70
                    (try (have c70b1 : decide (t295 = t298) = false:=by simpa using c70))
                    (try (have c70b2 : (t295 == t298) = false:=by simpa using c70))
                    (try (have c70b3 : ¬ (t295 = t298):=by simpa using c70))
                    clear c70
                    obtain rfl:=Option.some.inj H
                    have hcz79_0 : wc.cell? ⟨gb259,0,none⟩ = some (.int .i64 a0_0):=(blk_cell BK259.out 0).trans rfl
                    have hcz79_1 : wc.cell? ⟨gb259,1,none⟩ = some (.int .i64 a0_1):=(blk_cell BK259.out 1).trans rfl
                    have hcz79_2 : wc.cell? ⟨gb259,2,none⟩ = some (.slice A0_2 l0_2.length c0_2):=(blk_cell BK259.out 2).trans rfl
                    have hcz79_3 : wc.cell? ⟨gb259,3,none⟩ = some (.int .i64 a0_3):=(blk_cell BK259.out 3).trans rfl
                    have hcz79_4 : wc.cell? ⟨gb259,4,none⟩ = some (.int .u32 a0_4):=(blk_cell BK259.out 4).trans rfl
                    have hfz79_0:=blk_frozen BK259.out 0
                    have hfz79_1:=blk_frozen BK259.out 1
                    have hfz79_2:=blk_frozen BK259.out 2
                    have hfz79_3:=blk_frozen BK259.out 3
                    have hfz79_4:=blk_frozen BK259.out 4
                    obtain ⟨Ao80,co80,eo80⟩:=Kd.R_slice HO_17.out
                    subst eo80
                    go_wp2_with (first|((with_reducible refine gate_callee (f:=7) rfl ?_);refine goesL_ (some 108) rfl rfl Try.func7 (by kernel_rfl) rfl #[.agg #[.int .i64 a0_0,.int .i64 a0_1,.slice A0_2 l0_2.length c0_2,.int .i64 a0_3,.int .u32 a0_4],.slice Ao80 y277.length co80] rfl (by (try simp only [List.map_toArray,List.map_cons,List.map_nil]);first|done|rfl|(simp only [List.length_drop,List.length_take];rfl)) ?_;(with_reducible refine (machine_Run.calls kj38 a0_0 a0_1 _ _ l0_2 a0_3 a0_4 _ _ y277 t294 t295 t296 _ ?side1 ?side2 ?side3 ?side4 A64.out).mono ?_);(case side1=>repeat (first|exact (Kd.C_below HR0_2.out HB.out)|(with_reducible refine Kd.C_alloc ?_ _)|(with_reducible refine Kd.C_drewN ?_ _)|(with_reducible refine Kd.C_drew ?_)));(case side2=>exact HC0_2.out);(case side3=>repeat (first|exact (Kd.R_reads' HO_17.out).2.2|(with_reducible refine Kd.C_alloc ?_ _)|(with_reducible refine Kd.C_drewN ?_ _)|(with_reducible refine Kd.C_drew ?_)));(case side4=>exact (Kd.R_reads' HO_17.out).2.1);rintro e w81 ⟨rfl,hb⟩;refine ⟨_,rfl,?_⟩;have n0_:=Aside0.mk (Kd.R_below (by (with_reducible repeat (first|apply Kd.R_alloc|apply Kd.R_drewN|apply Kd.R_drew));exact HO_17.out) hb);have n1_:=Aside0.mk (Kd.R_below (by (with_reducible repeat (first|apply Kd.R_alloc|apply Kd.R_drewN|apply Kd.R_drew));exact HO_18.out) hb);have n2_:=Aside0.mk (blk_below (g:=gb259) (o:=.cells #[.int .i64 a0_0,.int .i64 a0_1,.slice A0_2 l0_2.length c0_2,.int .i64 a0_3,.int .u32 a0_4] 25 (0,0)) (by (with_reducible repeat (first|refine blk_drewN ?_ _|refine blk_drew ?_|refine blk_alloc ?_ _));exact BK259.out) hb);have n3_:=Aside0.mk (below_step (by repeat (first|(with_reducible first|exact HB.out|apply below_alloc|apply pw_below_drewN|apply below_drew1|refine below_set ?_ GE259.out)|exact HB.out)) hb);clear HO_17;clear HO_18;clear BK259;clear HB;have HO_17:=n0_;have HO_18:=n1_;have BK259:=n2_;have HB:=n3_;clear n0_ n1_ n2_ n3_;(try clear hb);(try clear hb2);(try clear hk);(try clear hi);have hcz82_0 : w81.cell? ⟨gb259,0,none⟩ = some (.int .i64 a0_0):=(blk_cell BK259.out 0).trans rfl;have hcz82_1 : w81.cell? ⟨gb259,1,none⟩ = some (.int .i64 a0_1):=(blk_cell BK259.out 1).trans rfl;have hcz82_2 : w81.cell? ⟨gb259,2,none⟩ = some (.slice A0_2 l0_2.length c0_2):=(blk_cell BK259.out 2).trans rfl;have hcz82_3 : w81.cell? ⟨gb259,3,none⟩ = some (.int .i64 a0_3):=(blk_cell BK259.out 3).trans rfl;have hcz82_4 : w81.cell? ⟨gb259,4,none⟩ = some (.int .u32 a0_4):=(blk_cell BK259.out 4).trans rfl;have hfz82_0:=blk_frozen BK259.out 0;have hfz82_1:=blk_frozen BK259.out 1;have hfz82_2:=blk_frozen BK259.out 2;have hfz82_3:=blk_frozen BK259.out 3;have hfz82_4:=blk_frozen BK259.out 4;obtain ⟨Ao83,co83,eo83⟩:=Kd.R_slice HO_18.out;subst eo83)|((with_reducible refine gate_callee (f:=7) rfl ?_);refine goesL_ (some 115) rfl rfl Try.func7 (by kernel_rfl) rfl #[.agg #[.int .i64 a0_0,.int .i64 a0_1,.slice A0_2 l0_2.length c0_2,.int .i64 a0_3,.int .u32 a0_4],.slice Ao83 y289.length co83] rfl (by (try simp only [List.map_toArray,List.map_cons,List.map_nil]);first|done|rfl|(simp only [List.length_drop,List.length_take];rfl)) ?_;(with_reducible refine (machine_Run.calls kj38 a0_0 a0_1 _ _ l0_2 a0_3 a0_4 _ _ y289 t297 t298 t299 _ ?side1 ?side2 ?side3 ?side4 A65.out).mono ?_);(case side1=>repeat (first|exact (Kd.C_below HR0_2.out HB.out)|(with_reducible refine Kd.C_alloc ?_ _)|(with_reducible refine Kd.C_drewN ?_ _)|(with_reducible refine Kd.C_drew ?_)));(case side2=>exact HC0_2.out);(case side3=>repeat (first|exact (Kd.R_reads' HO_18.out).2.2|(with_reducible refine Kd.C_alloc ?_ _)|(with_reducible refine Kd.C_drewN ?_ _)|(with_reducible refine Kd.C_drew ?_)));(case side4=>exact (Kd.R_reads' HO_18.out).2.1);rintro e w84 ⟨rfl,hb⟩;refine ⟨_,rfl,?_⟩;have n0_:=Aside0.mk (Kd.R_below (by (with_reducible repeat (first|apply Kd.R_alloc|apply Kd.R_drewN|apply Kd.R_drew));exact HO_17.out) hb);have n1_:=Aside0.mk (Kd.R_below (by (with_reducible repeat (first|apply Kd.R_alloc|apply Kd.R_drewN|apply Kd.R_drew));exact HO_18.out) hb);have n2_:=Aside0.mk (blk_below (g:=gb259) (o:=.cells #[.int .i64 a0_0,.int .i64 a0_1,.slice A0_2 l0_2.length c0_2,.int .i64 a0_3,.int .u32 a0_4] 25 (0,0)) (by (with_reducible repeat (first|refine blk_drewN ?_ _|refine blk_drew ?_|refine blk_alloc ?_ _));exact BK259.out) hb);have n3_:=Aside0.mk (below_step (by repeat (first|(with_reducible first|exact HB.out|apply below_alloc|apply pw_below_drewN|apply below_drew1|refine below_set ?_ GE259.out)|exact HB.out)) hb);clear HO_17;clear HO_18;clear BK259;clear HB;have HO_17:=n0_;have HO_18:=n1_;have BK259:=n2_;have HB:=n3_;clear n0_ n1_ n2_ n3_;(try clear hb);(try clear hb2);(try clear hk);(try clear hi);have hcz85_0 : w84.cell? ⟨gb259,0,none⟩ = some (.int .i64 a0_0):=(blk_cell BK259.out 0).trans rfl;have hcz85_1 : w84.cell? ⟨gb259,1,none⟩ = some (.int .i64 a0_1):=(blk_cell BK259.out 1).trans rfl;have hcz85_2 : w84.cell? ⟨gb259,2,none⟩ = some (.slice A0_2 l0_2.length c0_2):=(blk_cell BK259.out 2).trans rfl;have hcz85_3 : w84.cell? ⟨gb259,3,none⟩ = some (.int .i64 a0_3):=(blk_cell BK259.out 3).trans rfl;have hcz85_4 : w84.cell? ⟨gb259,4,none⟩ = some (.int .u32 a0_4):=(blk_cell BK259.out 4).trans rfl;have hfz85_0:=blk_frozen BK259.out 0;have hfz85_1:=blk_frozen BK259.out 1;have hfz85_2:=blk_frozen BK259.out 2;have hfz85_3:=blk_frozen BK259.out 3;have hfz85_4:=blk_frozen BK259.out 4)|((with_reducible refine gate_callee (f:=5) rfl ?_);refine goesL_ (some 123) rfl rfl Try.func5 (by kernel_rfl) rfl #[.agg #[.int .i64 a0_0,.int .i64 a0_1,.slice A0_2 l0_2.length c0_2,.int .i64 a0_3,.int .u32 a0_4],.slice Ao80 y277.length co80,.slice Ao83 y289.length co83] rfl (by (try simp only [List.map_toArray,List.map_cons,List.map_nil]);first|done|rfl|(simp only [List.length_drop,List.length_take];rfl)) ?_;(with_reducible refine (kinds_Same.calls kj38 a0_0 a0_1 _ _ l0_2 a0_3 a0_4 (fun k_=>some k_ = (.slice Ao80 y277.length co80 : Value).ownBlock) _ _ y277 (fun k_=>some k_ = (.slice Ao83 y289.length co83 : Value).ownBlock) _ _ y289 t300 t301 _ ?side1 ?side2 ?side3 ?side4 A66.out).mono ?_);(case side1=>repeat (first|exact (Kd.C_below HR0_2.out HB.out)|(with_reducible refine Kd.C_alloc ?_ _)|(with_reducible refine Kd.C_drewN ?_ _)|(with_reducible refine Kd.C_drew ?_)));(case side2=>exact HC0_2.out);(case side3=>exact Kd.R_V (Kd.R_tight rfl (Kd.R_types (HO_17.out) BK259.out (by decide))));(case side4=>exact Kd.R_V (Kd.R_tight rfl (Kd.R_types (HO_18.out) BK259.out (by decide))));rintro e w86 ⟨rfl,hb⟩;refine ⟨_,rfl,?_⟩;have n0_:=Aside0.mk (Kd.R_below (by (with_reducible repeat (first|apply Kd.R_alloc|apply Kd.R_drewN|apply Kd.R_drew));exact HO_17.out) hb);have n1_:=Aside0.mk (Kd.R_below (by (with_reducible repeat (first|apply Kd.R_alloc|apply Kd.R_drewN|apply Kd.R_drew));exact HO_18.out) hb);have n2_:=Aside0.mk (blk_below (g:=gb259) (o:=.cells #[.int .i64 a0_0,.int .i64 a0_1,.slice A0_2 l0_2.length c0_2,.int .i64 a0_3,.int .u32 a0_4] 25 (0,0)) (by (with_reducible repeat (first|refine blk_drewN ?_ _|refine blk_drew ?_|refine blk_alloc ?_ _));exact BK259.out) hb);have n3_:=Aside0.mk (below_step (by repeat (first|(with_reducible first|exact HB.out|apply below_alloc|apply pw_below_drewN|apply below_drew1|refine below_set ?_ GE259.out)|exact HB.out)) hb);clear HO_17;clear HO_18;clear BK259;clear HB;have HO_17:=n0_;have HO_18:=n1_;have BK259:=n2_;have HB:=n3_;clear n0_ n1_ n2_ n3_;(try clear hb);(try clear hb2);(try clear hk);(try clear hi)))
                    go_ret
                    exact ⟨by first|rfl|(simp [errW_none,errW_some] <;> rfl)|(simp [*,errW_none,errW_some] <;> rfl),by repeat (first|(with_reducible first|exact HB.out|apply below_alloc|apply pw_below_drewN|apply below_drew1|refine below_set ?_ GE259.out)|exact HB.out)⟩
                  ·rw [if_neg c69] at H
                   have c69b0 : (t301 == 0) = false:=beq_eq_false_iff_ne.mpr c69
                   have c69b1 : (t301 != 0) = true:=bne_iff_ne.mpr c69
                   obtain rfl:=Option.some.inj H
                   have hcz87_0 : wc.cell? ⟨gb259,0,none⟩ = some (.int .i64 a0_0):=(blk_cell BK259.out 0).trans rfl
                   have hcz87_1 : wc.cell? ⟨gb259,1,none⟩ = some (.int .i64 a0_1):=(blk_cell BK259.out 1).trans rfl
                   have hcz87_2 : wc.cell? ⟨gb259,2,none⟩ = some (.slice A0_2 l0_2.length c0_2):=(blk_cell BK259.out 2).trans rfl
                   have hcz87_3 : wc.cell? ⟨gb259,3,none⟩ = some (.int .i64 a0_3):=(blk_cell BK259.out 3).trans rfl
                   have hcz87_4 : wc.cell? ⟨gb259,4,none⟩ = some (.int .u32 a0_4):=(blk_cell BK259.out 4).trans rfl
                   have hfz87_0:=blk_frozen BK259.out 0
                   have hfz87_1:=blk_frozen BK259.out 1
                   have hfz87_2:=blk_frozen BK259.out 2
                   have hfz87_3:=blk_frozen BK259.out 3
                   have hfz87_4:=blk_frozen BK259.out 4
                   obtain ⟨Ao88,co88,eo88⟩:=Kd.R_slice HO_17.out
                   subst eo88
                   go_wp2_with (first|((with_reducible refine gate_callee (f:=7) rfl ?_);refine goesL_ (some 108) rfl rfl Try.func7 (by kernel_rfl) rfl #[.agg #[.int .i64 a0_0,.int .i64 a0_1,.slice A0_2 l0_2.length c0_2,.int .i64 a0_3,.int .u32 a0_4],.slice Ao88 y277.length co88] rfl (by (try simp only [List.map_toArray,List.map_cons,List.map_nil]);first|done|rfl|(simp only [List.length_drop,List.length_take];rfl)) ?_;(with_reducible refine (machine_Run.calls kj38 a0_0 a0_1 _ _ l0_2 a0_3 a0_4 _ _ y277 t294 t295 t296 _ ?side1 ?side2 ?side3 ?side4 A64.out).mono ?_);(case side1=>repeat (first|exact (Kd.C_below HR0_2.out HB.out)|(with_reducible refine Kd.C_alloc ?_ _)|(with_reducible refine Kd.C_drewN ?_ _)|(with_reducible refine Kd.C_drew ?_)));(case side2=>exact HC0_2.out);(case side3=>repeat (first|exact (Kd.R_reads' HO_17.out).2.2|(with_reducible refine Kd.C_alloc ?_ _)|(with_reducible refine Kd.C_drewN ?_ _)|(with_reducible refine Kd.C_drew ?_)));(case side4=>exact (Kd.R_reads' HO_17.out).2.1);rintro e w89 ⟨rfl,hb⟩;refine ⟨_,rfl,?_⟩;have n0_:=Aside0.mk (Kd.R_below (by (with_reducible repeat (first|apply Kd.R_alloc|apply Kd.R_drewN|apply Kd.R_drew));exact HO_17.out) hb);have n1_:=Aside0.mk (Kd.R_below (by (with_reducible repeat (first|apply Kd.R_alloc|apply Kd.R_drewN|apply Kd.R_drew));exact HO_18.out) hb);have n2_:=Aside0.mk (blk_below (g:=gb259) (o:=.cells #[.int .i64 a0_0,.int .i64 a0_1,.slice A0_2 l0_2.length c0_2,.int .i64 a0_3,.int .u32 a0_4] 25 (0,0)) (by (with_reducible repeat (first|refine blk_drewN ?_ _|refine blk_drew ?_|refine blk_alloc ?_ _));exact BK259.out) hb);have n3_:=Aside0.mk (below_step (by repeat (first|(with_reducible first|exact HB.out|apply below_alloc|apply pw_below_drewN|apply below_drew1|refine below_set ?_ GE259.out)|exact HB.out)) hb);clear HO_17;clear HO_18;clear BK259;clear HB;have HO_17:=n0_;have HO_18:=n1_;have BK259:=n2_;have HB:=n3_;clear n0_ n1_ n2_ n3_;(try clear hb);(try clear hb2);(try clear hk);(try clear hi);have hcz90_0 : w89.cell? ⟨gb259,0,none⟩ = some (.int .i64 a0_0):=(blk_cell BK259.out 0).trans rfl;have hcz90_1 : w89.cell? ⟨gb259,1,none⟩ = some (.int .i64 a0_1):=(blk_cell BK259.out 1).trans rfl;have hcz90_2 : w89.cell? ⟨gb259,2,none⟩ = some (.slice A0_2 l0_2.length c0_2):=(blk_cell BK259.out 2).trans rfl;have hcz90_3 : w89.cell? ⟨gb259,3,none⟩ = some (.int .i64 a0_3):=(blk_cell BK259.out 3).trans rfl;have hcz90_4 : w89.cell? ⟨gb259,4,none⟩ = some (.int .u32 a0_4):=(blk_cell BK259.out 4).trans rfl;have hfz90_0:=blk_frozen BK259.out 0;have hfz90_1:=blk_frozen BK259.out 1;have hfz90_2:=blk_frozen BK259.out 2;have hfz90_3:=blk_frozen BK259.out 3;have hfz90_4:=blk_frozen BK259.out 4;obtain ⟨Ao91,co91,eo91⟩:=Kd.R_slice HO_18.out;subst eo91)|((with_reducible refine gate_callee (f:=7) rfl ?_);refine goesL_ (some 115) rfl rfl Try.func7 (by kernel_rfl) rfl #[.agg #[.int .i64 a0_0,.int .i64 a0_1,.slice A0_2 l0_2.length c0_2,.int .i64 a0_3,.int .u32 a0_4],.slice Ao91 y289.length co91] rfl (by (try simp only [List.map_toArray,List.map_cons,List.map_nil]);first|done|rfl|(simp only [List.length_drop,List.length_take];rfl)) ?_;(with_reducible refine (machine_Run.calls kj38 a0_0 a0_1 _ _ l0_2 a0_3 a0_4 _ _ y289 t297 t298 t299 _ ?side1 ?side2 ?side3 ?side4 A65.out).mono ?_);(case side1=>repeat (first|exact (Kd.C_below HR0_2.out HB.out)|(with_reducible refine Kd.C_alloc ?_ _)|(with_reducible refine Kd.C_drewN ?_ _)|(with_reducible refine Kd.C_drew ?_)));(case side2=>exact HC0_2.out);(case side3=>repeat (first|exact (Kd.R_reads' HO_18.out).2.2|(with_reducible refine Kd.C_alloc ?_ _)|(with_reducible refine Kd.C_drewN ?_ _)|(with_reducible refine Kd.C_drew ?_)));(case side4=>exact (Kd.R_reads' HO_18.out).2.1);rintro e w92 ⟨rfl,hb⟩;refine ⟨_,rfl,?_⟩;have n0_:=Aside0.mk (Kd.R_below (by (with_reducible repeat (first|apply Kd.R_alloc|apply Kd.R_drewN|apply Kd.R_drew));exact HO_17.out) hb);have n1_:=Aside0.mk (Kd.R_below (by (with_reducible repeat (first|apply Kd.R_alloc|apply Kd.R_drewN|apply Kd.R_drew));exact HO_18.out) hb);have n2_:=Aside0.mk (blk_below (g:=gb259) (o:=.cells #[.int .i64 a0_0,.int .i64 a0_1,.slice A0_2 l0_2.length c0_2,.int .i64 a0_3,.int .u32 a0_4] 25 (0,0)) (by (with_reducible repeat (first|refine blk_drewN ?_ _|refine blk_drew ?_|refine blk_alloc ?_ _));exact BK259.out) hb);have n3_:=Aside0.mk (below_step (by repeat (first|(with_reducible first|exact HB.out|apply below_alloc|apply pw_below_drewN|apply below_drew1|refine below_set ?_ GE259.out)|exact HB.out)) hb);clear HO_17;clear HO_18;clear BK259;clear HB;have HO_17:=n0_;have HO_18:=n1_;have BK259:=n2_;have HB:=n3_;clear n0_ n1_ n2_ n3_;(try clear hb);(try clear hb2);(try clear hk);(try clear hi);have hcz93_0 : w92.cell? ⟨gb259,0,none⟩ = some (.int .i64 a0_0):=(blk_cell BK259.out 0).trans rfl;have hcz93_1 : w92.cell? ⟨gb259,1,none⟩ = some (.int .i64 a0_1):=(blk_cell BK259.out 1).trans rfl;have hcz93_2 : w92.cell? ⟨gb259,2,none⟩ = some (.slice A0_2 l0_2.length c0_2):=(blk_cell BK259.out 2).trans rfl;have hcz93_3 : w92.cell? ⟨gb259,3,none⟩ = some (.int .i64 a0_3):=(blk_cell BK259.out 3).trans rfl;have hcz93_4 : w92.cell? ⟨gb259,4,none⟩ = some (.int .u32 a0_4):=(blk_cell BK259.out 4).trans rfl;have hfz93_0:=blk_frozen BK259.out 0;have hfz93_1:=blk_frozen BK259.out 1;have hfz93_2:=blk_frozen BK259.out 2;have hfz93_3:=blk_frozen BK259.out 3;have hfz93_4:=blk_frozen BK259.out 4)|((with_reducible refine gate_callee (f:=5) rfl ?_);refine goesL_ (some 123) rfl rfl Try.func5 (by kernel_rfl) rfl #[.agg #[.int .i64 a0_0,.int .i64 a0_1,.slice A0_2 l0_2.length c0_2,.int .i64 a0_3,.int .u32 a0_4],.slice Ao88 y277.length co88,.slice Ao91 y289.length co91] rfl (by (try simp only [List.map_toArray,List.map_cons,List.map_nil]);first|done|rfl|(simp only [List.length_drop,List.length_take];rfl)) ?_;(with_reducible refine (kinds_Same.calls kj38 a0_0 a0_1 _ _ l0_2 a0_3 a0_4 (fun k_=>some k_ = (.slice Ao88 y277.length co88 : Value).ownBlock) _ _ y277 (fun k_=>some k_ = (.slice Ao91 y289.length co91 : Value).ownBlock) _ _ y289 t300 t301 _ ?side1 ?side2 ?side3 ?side4 A66.out).mono ?_);(case side1=>repeat (first|exact (Kd.C_below HR0_2.out HB.out)|(with_reducible refine Kd.C_alloc ?_ _)|(with_reducible refine Kd.C_drewN ?_ _)|(with_reducible refine Kd.C_drew ?_)));(case side2=>exact HC0_2.out);(case side3=>exact Kd.R_V (Kd.R_tight rfl (Kd.R_types (HO_17.out) BK259.out (by decide))));(case side4=>exact Kd.R_V (Kd.R_tight rfl (Kd.R_types (HO_18.out) BK259.out (by decide))));rintro e w94 ⟨rfl,hb⟩;refine ⟨_,rfl,?_⟩;have n0_:=Aside0.mk (Kd.R_below (by (with_reducible repeat (first|apply Kd.R_alloc|apply Kd.R_drewN|apply Kd.R_drew));exact HO_17.out) hb);have n1_:=Aside0.mk (Kd.R_below (by (with_reducible repeat (first|apply Kd.R_alloc|apply Kd.R_drewN|apply Kd.R_drew));exact HO_18.out) hb);have n2_:=Aside0.mk (blk_below (g:=gb259) (o:=.cells #[.int .i64 a0_0,.int .i64 a0_1,.slice A0_2 l0_2.length c0_2,.int .i64 a0_3,.int .u32 a0_4] 25 (0,0)) (by (with_reducible repeat (first|refine blk_drewN ?_ _|refine blk_drew ?_|refine blk_alloc ?_ _));exact BK259.out) hb);have n3_:=Aside0.mk (below_step (by repeat (first|(with_reducible first|exact HB.out|apply below_alloc|apply pw_below_drewN|apply below_drew1|refine below_set ?_ GE259.out)|exact HB.out)) hb);clear HO_17;clear HO_18;clear BK259;clear HB;have HO_17:=n0_;have HO_18:=n1_;have BK259:=n2_;have HB:=n3_;clear n0_ n1_ n2_ n3_;(try clear hb);(try clear hb2);(try clear hk);(try clear hi)))
                   go_ret
                   exact ⟨by first|rfl|(simp [errW_none,errW_some] <;> rfl)|(simp [*,errW_none,errW_some] <;> rfl),by repeat (first|(with_reducible first|exact HB.out|apply below_alloc|apply pw_below_drewN|apply below_drew1|refine below_set ?_ GE259.out)|exact HB.out)⟩
                 ·rw [if_neg c68] at H
                  have c68b0 : (t299 == 0) = false:=beq_eq_false_iff_ne.mpr c68
                  have c68b1 : (t299 != 0) = true:=bne_iff_ne.mpr c68
                  obtain rfl:=Option.some.inj H
                  have hcz95_0 : wc.cell? ⟨gb259,0,none⟩ = some (.int .i64 a0_0):=(blk_cell BK259.out 0).trans rfl
                  have hcz95_1 : wc.cell? ⟨gb259,1,none⟩ = some (.int .i64 a0_1):=(blk_cell BK259.out 1).trans rfl
                  have hcz95_2 : wc.cell? ⟨gb259,2,none⟩ = some (.slice A0_2 l0_2.length c0_2):=(blk_cell BK259.out 2).trans rfl
                  have hcz95_3 : wc.cell? ⟨gb259,3,none⟩ = some (.int .i64 a0_3):=(blk_cell BK259.out 3).trans rfl
                  have hcz95_4 : wc.cell? ⟨gb259,4,none⟩ = some (.int .u32 a0_4):=(blk_cell BK259.out 4).trans rfl
                  have hfz95_0:=blk_frozen BK259.out 0
                  have hfz95_1:=blk_frozen BK259.out 1
                  have hfz95_2:=blk_frozen BK259.out 2
                  have hfz95_3:=blk_frozen BK259.out 3
                  have hfz95_4:=blk_frozen BK259.out 4
                  obtain ⟨Ao96,co96,eo96⟩:=Kd.R_slice HO_17.out
                  subst eo96
                  go_wp2_with (first|((with_reducible refine gate_callee (f:=7) rfl ?_);refine goesL_ (some 108) rfl rfl Try.func7 (by kernel_rfl) rfl #[.agg #[.int .i64 a0_0,.int .i64 a0_1,.slice A0_2 l0_2.length c0_2,.int .i64 a0_3,.int .u32 a0_4],.slice Ao96 y277.length co96] rfl (by (try simp only [List.map_toArray,List.map_cons,List.map_nil]);first|done|rfl|(simp only [List.length_drop,List.length_take];rfl)) ?_;(with_reducible refine (machine_Run.calls kj38 a0_0 a0_1 _ _ l0_2 a0_3 a0_4 _ _ y277 t294 t295 t296 _ ?side1 ?side2 ?side3 ?side4 A64.out).mono ?_);(case side1=>repeat (first|exact (Kd.C_below HR0_2.out HB.out)|(with_reducible refine Kd.C_alloc ?_ _)|(with_reducible refine Kd.C_drewN ?_ _)|(with_reducible refine Kd.C_drew ?_)));(case side2=>exact HC0_2.out);(case side3=>repeat (first|exact (Kd.R_reads' HO_17.out).2.2|(with_reducible refine Kd.C_alloc ?_ _)|(with_reducible refine Kd.C_drewN ?_ _)|(with_reducible refine Kd.C_drew ?_)));(case side4=>exact (Kd.R_reads' HO_17.out).2.1);rintro e w97 ⟨rfl,hb⟩;refine ⟨_,rfl,?_⟩;have n0_:=Aside0.mk (Kd.R_below (by (with_reducible repeat (first|apply Kd.R_alloc|apply Kd.R_drewN|apply Kd.R_drew));exact HO_17.out) hb);have n1_:=Aside0.mk (Kd.R_below (by (with_reducible repeat (first|apply Kd.R_alloc|apply Kd.R_drewN|apply Kd.R_drew));exact HO_18.out) hb);have n2_:=Aside0.mk (blk_below (g:=gb259) (o:=.cells #[.int .i64 a0_0,.int .i64 a0_1,.slice A0_2 l0_2.length c0_2,.int .i64 a0_3,.int .u32 a0_4] 25 (0,0)) (by (with_reducible repeat (first|refine blk_drewN ?_ _|refine blk_drew ?_|refine blk_alloc ?_ _));exact BK259.out) hb);have n3_:=Aside0.mk (below_step (by repeat (first|(with_reducible first|exact HB.out|apply below_alloc|apply pw_below_drewN|apply below_drew1|refine below_set ?_ GE259.out)|exact HB.out)) hb);clear HO_17;clear HO_18;clear BK259;clear HB;have HO_17:=n0_;have HO_18:=n1_;have BK259:=n2_;have HB:=n3_;clear n0_ n1_ n2_ n3_;(try clear hb);(try clear hb2);(try clear hk);(try clear hi);have hcz98_0 : w97.cell? ⟨gb259,0,none⟩ = some (.int .i64 a0_0):=(blk_cell BK259.out 0).trans rfl;have hcz98_1 : w97.cell? ⟨gb259,1,none⟩ = some (.int .i64 a0_1):=(blk_cell BK259.out 1).trans rfl;have hcz98_2 : w97.cell? ⟨gb259,2,none⟩ = some (.slice A0_2 l0_2.length c0_2):=(blk_cell BK259.out 2).trans rfl;have hcz98_3 : w97.cell? ⟨gb259,3,none⟩ = some (.int .i64 a0_3):=(blk_cell BK259.out 3).trans rfl;have hcz98_4 : w97.cell? ⟨gb259,4,none⟩ = some (.int .u32 a0_4):=(blk_cell BK259.out 4).trans rfl;have hfz98_0:=blk_frozen BK259.out 0;have hfz98_1:=blk_frozen BK259.out 1;have hfz98_2:=blk_frozen BK259.out 2;have hfz98_3:=blk_frozen BK259.out 3;have hfz98_4:=blk_frozen BK259.out 4;obtain ⟨Ao99,co99,eo99⟩:=Kd.R_slice HO_18.out;subst eo99)|((with_reducible refine gate_callee (f:=7) rfl ?_);refine goesL_ (some 115) rfl rfl Try.func7 (by kernel_rfl) rfl #[.agg #[.int .i64 a0_0,.int .i64 a0_1,.slice A0_2 l0_2.length c0_2,.int .i64 a0_3,.int .u32 a0_4],.slice Ao99 y289.length co99] rfl (by (try simp only [List.map_toArray,List.map_cons,List.map_nil]);first|done|rfl|(simp only [List.length_drop,List.length_take];rfl)) ?_;(with_reducible refine (machine_Run.calls kj38 a0_0 a0_1 _ _ l0_2 a0_3 a0_4 _ _ y289 t297 t298 t299 _ ?side1 ?side2 ?side3 ?side4 A65.out).mono ?_);(case side1=>repeat (first|exact (Kd.C_below HR0_2.out HB.out)|(with_reducible refine Kd.C_alloc ?_ _)|(with_reducible refine Kd.C_drewN ?_ _)|(with_reducible refine Kd.C_drew ?_)));(case side2=>exact HC0_2.out);(case side3=>repeat (first|exact (Kd.R_reads' HO_18.out).2.2|(with_reducible refine Kd.C_alloc ?_ _)|(with_reducible refine Kd.C_drewN ?_ _)|(with_reducible refine Kd.C_drew ?_)));(case side4=>exact (Kd.R_reads' HO_18.out).2.1);rintro e w100 ⟨rfl,hb⟩;refine ⟨_,rfl,?_⟩;have n0_:=Aside0.mk (Kd.R_below (by (with_reducible repeat (first|apply Kd.R_alloc|apply Kd.R_drewN|apply Kd.R_drew));exact HO_17.out) hb);have n1_:=Aside0.mk (Kd.R_below (by (with_reducible repeat (first|apply Kd.R_alloc|apply Kd.R_drewN|apply Kd.R_drew));exact HO_18.out) hb);have n2_:=Aside0.mk (blk_below (g:=gb259) (o:=.cells #[.int .i64 a0_0,.int .i64 a0_1,.slice A0_2 l0_2.length c0_2,.int .i64 a0_3,.int .u32 a0_4] 25 (0,0)) (by (with_reducible repeat (first|refine blk_drewN ?_ _|refine blk_drew ?_|refine blk_alloc ?_ _));exact BK259.out) hb);have n3_:=Aside0.mk (below_step (by repeat (first|(with_reducible first|exact HB.out|apply below_alloc|apply pw_below_drewN|apply below_drew1|refine below_set ?_ GE259.out)|exact HB.out)) hb);clear HO_17;clear HO_18;clear BK259;clear HB;have HO_17:=n0_;have HO_18:=n1_;have BK259:=n2_;have HB:=n3_;clear n0_ n1_ n2_ n3_;(try clear hb);(try clear hb2);(try clear hk);(try clear hi);have hcz101_0 : w100.cell? ⟨gb259,0,none⟩ = some (.int .i64 a0_0):=(blk_cell BK259.out 0).trans rfl;have hcz101_1 : w100.cell? ⟨gb259,1,none⟩ = some (.int .i64 a0_1):=(blk_cell BK259.out 1).trans rfl;have hcz101_2 : w100.cell? ⟨gb259,2,none⟩ = some (.slice A0_2 l0_2.length c0_2):=(blk_cell BK259.out 2).trans rfl;have hcz101_3 : w100.cell? ⟨gb259,3,none⟩ = some (.int .i64 a0_3):=(blk_cell BK259.out 3).trans rfl;have hcz101_4 : w100.cell? ⟨gb259,4,none⟩ = some (.int .u32 a0_4):=(blk_cell BK259.out 4).trans rfl;have hfz101_0:=blk_frozen BK259.out 0;have hfz101_1:=blk_frozen BK259.out 1;have hfz101_2:=blk_frozen BK259.out 2;have hfz101_3:=blk_frozen BK259.out 3;have hfz101_4:=blk_frozen BK259.out 4)|((with_reducible refine gate_callee (f:=5) rfl ?_);refine goesL_ (some 123) rfl rfl Try.func5 (by kernel_rfl) rfl #[.agg #[.int .i64 a0_0,.int .i64 a0_1,.slice A0_2 l0_2.length c0_2,.int .i64 a0_3,.int .u32 a0_4],.slice Ao96 y277.length co96,.slice Ao99 y289.length co99] rfl (by (try simp only [List.map_toArray,List.map_cons,List.map_nil]);first|done|rfl|(simp only [List.length_drop,List.length_take];rfl)) ?_;(with_reducible refine (kinds_Same.calls kj38 a0_0 a0_1 _ _ l0_2 a0_3 a0_4 (fun k_=>some k_ = (.slice Ao96 y277.length co96 : Value).ownBlock) _ _ y277 (fun k_=>some k_ = (.slice Ao99 y289.length co99 : Value).ownBlock) _ _ y289 t300 t301 _ ?side1 ?side2 ?side3 ?side4 A66.out).mono ?_);(case side1=>repeat (first|exact (Kd.C_below HR0_2.out HB.out)|(with_reducible refine Kd.C_alloc ?_ _)|(with_reducible refine Kd.C_drewN ?_ _)|(with_reducible refine Kd.C_drew ?_)));(case side2=>exact HC0_2.out);(case side3=>exact Kd.R_V (Kd.R_tight rfl (Kd.R_types (HO_17.out) BK259.out (by decide))));(case side4=>exact Kd.R_V (Kd.R_tight rfl (Kd.R_types (HO_18.out) BK259.out (by decide))));rintro e w102 ⟨rfl,hb⟩;refine ⟨_,rfl,?_⟩;have n0_:=Aside0.mk (Kd.R_below (by (with_reducible repeat (first|apply Kd.R_alloc|apply Kd.R_drewN|apply Kd.R_drew));exact HO_17.out) hb);have n1_:=Aside0.mk (Kd.R_below (by (with_reducible repeat (first|apply Kd.R_alloc|apply Kd.R_drewN|apply Kd.R_drew));exact HO_18.out) hb);have n2_:=Aside0.mk (blk_below (g:=gb259) (o:=.cells #[.int .i64 a0_0,.int .i64 a0_1,.slice A0_2 l0_2.length c0_2,.int .i64 a0_3,.int .u32 a0_4] 25 (0,0)) (by (with_reducible repeat (first|refine blk_drewN ?_ _|refine blk_drew ?_|refine blk_alloc ?_ _));exact BK259.out) hb);have n3_:=Aside0.mk (below_step (by repeat (first|(with_reducible first|exact HB.out|apply below_alloc|apply pw_below_drewN|apply below_drew1|refine below_set ?_ GE259.out)|exact HB.out)) hb);clear HO_17;clear HO_18;clear BK259;clear HB;have HO_17:=n0_;have HO_18:=n1_;have BK259:=n2_;have HB:=n3_;clear n0_ n1_ n2_ n3_;(try clear hb);(try clear hb2);(try clear hk);(try clear hi)))
                  go_ret
                  exact ⟨by first|rfl|(simp [errW_none,errW_some] <;> rfl)|(simp [*,errW_none,errW_some] <;> rfl),by repeat (first|(with_reducible first|exact HB.out|apply below_alloc|apply pw_below_drewN|apply below_drew1|refine below_set ?_ GE259.out)|exact HB.out)⟩
                ·rw [if_neg c67] at H
                 have c67b0 : (t296 == 0) = false:=beq_eq_false_iff_ne.mpr c67
                 have c67b1 : (t296 != 0) = true:=bne_iff_ne.mpr c67
                 obtain rfl:=Option.some.inj H
                 have hcz103_0 : wc.cell? ⟨gb259,0,none⟩ = some (.int .i64 a0_0):=(blk_cell BK259.out 0).trans rfl
                 have hcz103_1 : wc.cell? ⟨gb259,1,none⟩ = some (.int .i64 a0_1):=(blk_cell BK259.out 1).trans rfl
                 have hcz103_2 : wc.cell? ⟨gb259,2,none⟩ = some (.slice A0_2 l0_2.length c0_2):=(blk_cell BK259.out 2).trans rfl
                 have hcz103_3 : wc.cell? ⟨gb259,3,none⟩ = some (.int .i64 a0_3):=(blk_cell BK259.out 3).trans rfl
                 have hcz103_4 : wc.cell? ⟨gb259,4,none⟩ = some (.int .u32 a0_4):=(blk_cell BK259.out 4).trans rfl
                 have hfz103_0:=blk_frozen BK259.out 0
                 have hfz103_1:=blk_frozen BK259.out 1
                 have hfz103_2:=blk_frozen BK259.out 2
                 have hfz103_3:=blk_frozen BK259.out 3
                 have hfz103_4:=blk_frozen BK259.out 4
                 obtain ⟨Ao104,co104,eo104⟩:=Kd.R_slice HO_17.out
                 subst eo104
                 go_wp2_with (first|((with_reducible refine gate_callee (f:=7) rfl ?_);refine goesL_ (some 108) rfl rfl Try.func7 (by kernel_rfl) rfl #[.agg #[.int .i64 a0_0,.int .i64 a0_1,.slice A0_2 l0_2.length c0_2,.int .i64 a0_3,.int .u32 a0_4],.slice Ao104 y277.length co104] rfl (by (try simp only [List.map_toArray,List.map_cons,List.map_nil]);first|done|rfl|(simp only [List.length_drop,List.length_take];rfl)) ?_;(with_reducible refine (machine_Run.calls kj38 a0_0 a0_1 _ _ l0_2 a0_3 a0_4 _ _ y277 t294 t295 t296 _ ?side1 ?side2 ?side3 ?side4 A64.out).mono ?_);(case side1=>repeat (first|exact (Kd.C_below HR0_2.out HB.out)|(with_reducible refine Kd.C_alloc ?_ _)|(with_reducible refine Kd.C_drewN ?_ _)|(with_reducible refine Kd.C_drew ?_)));(case side2=>exact HC0_2.out);(case side3=>repeat (first|exact (Kd.R_reads' HO_17.out).2.2|(with_reducible refine Kd.C_alloc ?_ _)|(with_reducible refine Kd.C_drewN ?_ _)|(with_reducible refine Kd.C_drew ?_)));(case side4=>exact (Kd.R_reads' HO_17.out).2.1);rintro e w105 ⟨rfl,hb⟩;refine ⟨_,rfl,?_⟩;have n0_:=Aside0.mk (Kd.R_below (by (with_reducible repeat (first|apply Kd.R_alloc|apply Kd.R_drewN|apply Kd.R_drew));exact HO_17.out) hb);have n1_:=Aside0.mk (Kd.R_below (by (with_reducible repeat (first|apply Kd.R_alloc|apply Kd.R_drewN|apply Kd.R_drew));exact HO_18.out) hb);have n2_:=Aside0.mk (blk_below (g:=gb259) (o:=.cells #[.int .i64 a0_0,.int .i64 a0_1,.slice A0_2 l0_2.length c0_2,.int .i64 a0_3,.int .u32 a0_4] 25 (0,0)) (by (with_reducible repeat (first|refine blk_drewN ?_ _|refine blk_drew ?_|refine blk_alloc ?_ _));exact BK259.out) hb);have n3_:=Aside0.mk (below_step (by repeat (first|(with_reducible first|exact HB.out|apply below_alloc|apply pw_below_drewN|apply below_drew1|refine below_set ?_ GE259.out)|exact HB.out)) hb);clear HO_17;clear HO_18;clear BK259;clear HB;have HO_17:=n0_;have HO_18:=n1_;have BK259:=n2_;have HB:=n3_;clear n0_ n1_ n2_ n3_;(try clear hb);(try clear hb2);(try clear hk);(try clear hi);have hcz106_0 : w105.cell? ⟨gb259,0,none⟩ = some (.int .i64 a0_0):=(blk_cell BK259.out 0).trans rfl;have hcz106_1 : w105.cell? ⟨gb259,1,none⟩ = some (.int .i64 a0_1):=(blk_cell BK259.out 1).trans rfl;have hcz106_2 : w105.cell? ⟨gb259,2,none⟩ = some (.slice A0_2 l0_2.length c0_2):=(blk_cell BK259.out 2).trans rfl;have hcz106_3 : w105.cell? ⟨gb259,3,none⟩ = some (.int .i64 a0_3):=(blk_cell BK259.out 3).trans rfl;have hcz106_4 : w105.cell? ⟨gb259,4,none⟩ = some (.int .u32 a0_4):=(blk_cell BK259.out 4).trans rfl;have hfz106_0:=blk_frozen BK259.out 0;have hfz106_1:=blk_frozen BK259.out 1;have hfz106_2:=blk_frozen BK259.out 2;have hfz106_3:=blk_frozen BK259.out 3;have hfz106_4:=blk_frozen BK259.out 4;obtain ⟨Ao107,co107,eo107⟩:=Kd.R_slice HO_18.out;subst eo107)|((with_reducible refine gate_callee (f:=7) rfl ?_);refine goesL_ (some 115) rfl rfl Try.func7 (by kernel_rfl) rfl #[.agg #[.int .i64 a0_0,.int .i64 a0_1,.slice A0_2 l0_2.length c0_2,.int .i64 a0_3,.int .u32 a0_4],.slice Ao107 y289.length co107] rfl (by (try simp only [List.map_toArray,List.map_cons,List.map_nil]);first|done|rfl|(simp only [List.length_drop,List.length_take];rfl)) ?_;(with_reducible refine (machine_Run.calls kj38 a0_0 a0_1 _ _ l0_2 a0_3 a0_4 _ _ y289 t297 t298 t299 _ ?side1 ?side2 ?side3 ?side4 A65.out).mono ?_);(case side1=>repeat (first|exact (Kd.C_below HR0_2.out HB.out)|(with_reducible refine Kd.C_alloc ?_ _)|(with_reducible refine Kd.C_drewN ?_ _)|(with_reducible refine Kd.C_drew ?_)));(case side2=>exact HC0_2.out);(case side3=>repeat (first|exact (Kd.R_reads' HO_18.out).2.2|(with_reducible refine Kd.C_alloc ?_ _)|(with_reducible refine Kd.C_drewN ?_ _)|(with_reducible refine Kd.C_drew ?_)));(case side4=>exact (Kd.R_reads' HO_18.out).2.1);rintro e w108 ⟨rfl,hb⟩;refine ⟨_,rfl,?_⟩;have n0_:=Aside0.mk (Kd.R_below (by (with_reducible repeat (first|apply Kd.R_alloc|apply Kd.R_drewN|apply Kd.R_drew));exact HO_17.out) hb);have n1_:=Aside0.mk (Kd.R_below (by (with_reducible repeat (first|apply Kd.R_alloc|apply Kd.R_drewN|apply Kd.R_drew));exact HO_18.out) hb);have n2_:=Aside0.mk (blk_below (g:=gb259) (o:=.cells #[.int .i64 a0_0,.int .i64 a0_1,.slice A0_2 l0_2.length c0_2,.int .i64 a0_3,.int .u32 a0_4] 25 (0,0)) (by (with_reducible repeat (first|refine blk_drewN ?_ _|refine blk_drew ?_|refine blk_alloc ?_ _));exact BK259.out) hb);have n3_:=Aside0.mk (below_step (by repeat (first|(with_reducible first|exact HB.out|apply below_alloc|apply pw_below_drewN|apply below_drew1|refine below_set ?_ GE259.out)|exact HB.out)) hb);clear HO_17;clear HO_18;clear BK259;clear HB;have HO_17:=n0_;have HO_18:=n1_;have BK259:=n2_;have HB:=n3_;clear n0_ n1_ n2_ n3_;(try clear hb);(try clear hb2);(try clear hk);(try clear hi);have hcz109_0 : w108.cell? ⟨gb259,0,none⟩ = some (.int .i64 a0_0):=(blk_cell BK259.out 0).trans rfl;have hcz109_1 : w108.cell? ⟨gb259,1,none⟩ = some (.int .i64 a0_1):=(blk_cell BK259.out 1).trans rfl;have hcz109_2 : w108.cell? ⟨gb259,2,none⟩ = some (.slice A0_2 l0_2.length c0_2):=(blk_cell BK259.out 2).trans rfl;have hcz109_3 : w108.cell? ⟨gb259,3,none⟩ = some (.int .i64 a0_3):=(blk_cell BK259.out 3).trans rfl;have hcz109_4 : w108.cell? ⟨gb259,4,none⟩ = some (.int .u32 a0_4):=(blk_cell BK259.out 4).trans rfl;have hfz109_0:=blk_frozen BK259.out 0;have hfz109_1:=blk_frozen BK259.out 1;have hfz109_2:=blk_frozen BK259.out 2;have hfz109_3:=blk_frozen BK259.out 3;have hfz109_4:=blk_frozen BK259.out 4)|((with_reducible refine gate_callee (f:=5) rfl ?_);refine goesL_ (some 123) rfl rfl Try.func5 (by kernel_rfl) rfl #[.agg #[.int .i64 a0_0,.int .i64 a0_1,.slice A0_2 l0_2.length c0_2,.int .i64 a0_3,.int .u32 a0_4],.slice Ao104 y277.length co104,.slice Ao107 y289.length co107] rfl (by (try simp only [List.map_toArray,List.map_cons,List.map_nil]);first|done|rfl|(simp only [List.length_drop,List.length_take];rfl)) ?_;(with_reducible refine (kinds_Same.calls kj38 a0_0 a0_1 _ _ l0_2 a0_3 a0_4 (fun k_=>some k_ = (.slice Ao104 y277.length co104 : Value).ownBlock) _ _ y277 (fun k_=>some k_ = (.slice Ao107 y289.length co107 : Value).ownBlock) _ _ y289 t300 t301 _ ?side1 ?side2 ?side3 ?side4 A66.out).mono ?_);(case side1=>repeat (first|exact (Kd.C_below HR0_2.out HB.out)|(with_reducible refine Kd.C_alloc ?_ _)|(with_reducible refine Kd.C_drewN ?_ _)|(with_reducible refine Kd.C_drew ?_)));(case side2=>exact HC0_2.out);(case side3=>exact Kd.R_V (Kd.R_tight rfl (Kd.R_types (HO_17.out) BK259.out (by decide))));(case side4=>exact Kd.R_V (Kd.R_tight rfl (Kd.R_types (HO_18.out) BK259.out (by decide))));rintro e w110 ⟨rfl,hb⟩;refine ⟨_,rfl,?_⟩;have n0_:=Aside0.mk (Kd.R_below (by (with_reducible repeat (first|apply Kd.R_alloc|apply Kd.R_drewN|apply Kd.R_drew));exact HO_17.out) hb);have n1_:=Aside0.mk (Kd.R_below (by (with_reducible repeat (first|apply Kd.R_alloc|apply Kd.R_drewN|apply Kd.R_drew));exact HO_18.out) hb);have n2_:=Aside0.mk (blk_below (g:=gb259) (o:=.cells #[.int .i64 a0_0,.int .i64 a0_1,.slice A0_2 l0_2.length c0_2,.int .i64 a0_3,.int .u32 a0_4] 25 (0,0)) (by (with_reducible repeat (first|refine blk_drewN ?_ _|refine blk_drew ?_|refine blk_alloc ?_ _));exact BK259.out) hb);have n3_:=Aside0.mk (below_step (by repeat (first|(with_reducible first|exact HB.out|apply below_alloc|apply pw_below_drewN|apply below_drew1|refine below_set ?_ GE259.out)|exact HB.out)) hb);clear HO_17;clear HO_18;clear BK259;clear HB;have HO_17:=n0_;have HO_18:=n1_;have BK259:=n2_;have HB:=n3_;clear n0_ n1_ n2_ n3_;(try clear hb);(try clear hb2);(try clear hk);(try clear hi)))
                 go_ret
                 exact ⟨by first|rfl|(simp [errW_none,errW_some] <;> rfl)|(simp [*,errW_none,errW_some] <;> rfl),by repeat (first|(with_reducible first|exact HB.out|apply below_alloc|apply pw_below_drewN|apply below_drew1|refine below_set ?_ GE259.out)|exact HB.out)⟩
            ·rw [if_neg c38] at H
             exact absurd H (by simp)
           ·rw [if_neg c37] at H
            exact absurd H (by simp)
          ·rw [if_neg c36] at H
           exact absurd H (by simp)
         ·rw [if_neg c35] at H
          exact absurd H (by simp)
        ·rw [if_neg c34] at H
         exact absurd H (by simp)
       ·rw [if_neg c33] at H
        exact absurd H (by simp)
/-- THE ONE PURE STATEMENT of coppicerkeep_KindsSame: yours. -/
def coppicerkeep_KindsSame.Pure : Prop:=∀ (a0_0 : Int) (a0_1 : Int) (l0_2 : List (List Int)) (a0_3 : Int) (a0_4 : Int) (l1 : List Int) (l2 : List Int) (l3 : List Int) (l4 : List Int),((Lit.int .i64 a0_0).wf = true) → ((Lit.int .i64 a0_1).wf = true) → (l0_2.length ≤ 9223372036854775807 ∧ l0_2.length * 24 ≤ 140737488351232 ∧ ∀ y_ ∈ l0_2,y_.length ≤ 9223372036854775807 ∧ y_.length * 8 ≤ 140737488351232 ∧ ∀ y__ ∈ y_,(Lit.int .i64 y__).wf = true) → ((Lit.int .i64 a0_3).wf = true) → ((Lit.int .u32 a0_4).wf = true) → (l1.length ≤ 9223372036854775807 ∧ l1.length * 8 ≤ 140737488351232 ∧ ∀ y_ ∈ l1,(Lit.int .i64 y_).wf = true) → (l1.length ≤ 1048576) → (l2.length ≤ 9223372036854775807 ∧ l2.length * 8 ≤ 140737488351232 ∧ ∀ y_ ∈ l2,(Lit.int .i64 y_).wf = true) → (l2.length ≤ 1048576) → (l3.length ≤ 9223372036854775807 ∧ l3.length * 8 ≤ 140737488351232 ∧ ∀ y_ ∈ l3,(Lit.int .i64 y_).wf = true) → (l3.length ≤ 1048576) → (l4.length ≤ 9223372036854775807 ∧ l4.length * 8 ≤ 140737488351232 ∧ ∀ y_ ∈ l4,(Lit.int .i64 y_).wf = true) → (l4.length ≤ 1048576) → ∃ k,coppicerkeep_KindsSame.f k a0_0 a0_1 l0_2 a0_3 a0_4 l1 l2 l3 l4 = some true
theorem coppicerkeep_KindsSame.walk (P : coppicerkeep_KindsSame.Pure) (a0_0 : Int) (a0_1 : Int) (A0_2 : Option Addr) (l0_2 : List (List Int)) (c0_2 : Nat) (a0_3 : Int) (a0_4 : Int) (A1 : Option Addr) (l1 : List Int) (c1 : Nat) (A2 : Option Addr) (l2 : List Int) (c2 : Nat) (A3 : Option Addr) (l3 : List Int) (c3 : Nat) (A4 : Option Addr) (l4 : List Int) (c4 : Nat) (w : World) (w0_0 : (Lit.int .i64 a0_0).wf = true) (w0_1 : (Lit.int .i64 a0_1).wf = true) (hr0_2 : Kd.C (Kd.slice 3 (Kd.int .i64)) w A0_2 l0_2.length l0_2) (hc0_2 : l0_2.length ≤ c0_2) (w0_2 : l0_2.length ≤ 9223372036854775807 ∧ l0_2.length * 24 ≤ 140737488351232 ∧ ∀ y_ ∈ l0_2,y_.length ≤ 9223372036854775807 ∧ y_.length * 8 ≤ 140737488351232 ∧ ∀ y__ ∈ y_,(Lit.int .i64 y__).wf = true) (w0_3 : (Lit.int .i64 a0_3).wf = true) (w0_4 : (Lit.int .u32 a0_4).wf = true) (hr1 : Kd.C (Kd.int .i64) w A1 l1.length l1) (hc1 : l1.length ≤ c1) (w1 : l1.length ≤ 9223372036854775807 ∧ l1.length * 8 ≤ 140737488351232 ∧ ∀ y_ ∈ l1,(Lit.int .i64 y_).wf = true) (n1 : l1.length ≤ 1048576) (hr2 : Kd.C (Kd.int .i64) w A2 l2.length l2) (hc2 : l2.length ≤ c2) (w2 : l2.length ≤ 9223372036854775807 ∧ l2.length * 8 ≤ 140737488351232 ∧ ∀ y_ ∈ l2,(Lit.int .i64 y_).wf = true) (n2 : l2.length ≤ 1048576) (hr3 : Kd.C (Kd.int .i64) w A3 l3.length l3) (hc3 : l3.length ≤ c3) (w3 : l3.length ≤ 9223372036854775807 ∧ l3.length * 8 ≤ 140737488351232 ∧ ∀ y_ ∈ l3,(Lit.int .i64 y_).wf = true) (n3 : l3.length ≤ 1048576) (hr4 : Kd.C (Kd.int .i64) w A4 l4.length l4) (hc4 : l4.length ≤ c4) (w4 : l4.length ≤ 9223372036854775807 ∧ l4.length * 8 ≤ 140737488351232 ∧ ∀ y_ ∈ l4,(Lit.int .i64 y_).wf = true) (n4 : l4.length ≤ 1048576) :
  Calls Try.prog 3 #[.agg #[.int .i64 a0_0,.int .i64 a0_1,.slice A0_2 l0_2.length c0_2,.int .i64 a0_3,.int .u32 a0_4],.slice A1 l1.length c1,.slice A2 l2.length c2,.slice A3 l3.length c3,.slice A4 l4.length c4] w fun e w'=>e = .returned (.bool true) ∧ Below w.heap.size w w':=by
 obtain ⟨k,h⟩:=P a0_0 a0_1 l0_2 a0_3 a0_4 l1 l2 l3 l4 w0_0 w0_1 w0_2 w0_3 w0_4 w1 n1 w2 n2 w3 n3 w4 n4
 refine (coppicerkeep_KindsSame.calls k _ _ _ _ _ _ _ _ _ _ _ _ _ _ _ _ _ _ _ true w hr0_2 hc0_2 hr1 hc1 hr2 hc2 hr3 hc3 hr4 hc4 h).mono ?_
 rintro e w' ⟨rfl,hd⟩
 exact ⟨rfl,hd⟩
end Go.Proofs.Yteppbihlpicjpaa.GK
