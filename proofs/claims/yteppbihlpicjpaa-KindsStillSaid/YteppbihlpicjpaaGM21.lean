-- Written by ext.py, a program of this session.
import Derived.Test.YteppbihlpicjpaaGM0
import Derived.Test.YteppbihlpicjpaaGM12
import Derived.Test.YteppbihlpicjpaaGM13
import Derived.Test.YteppbihlpicjpaaGM14
import Derived.Test.YteppbihlpicjpaaGM18
import Derived.Test.YteppbihlpicjpaaGM19
import Derived.Test.YteppbihlpicjpaaGM20
namespace Go.Proofs.Yteppbihlpicjpaa.GM
open Go.RowKit Go.Proofs.YteppbihlpicjpaaW.PrintWords Go.Proofs.YteppbihlpicjpaaW.PrintLast Go.Proofs.YteppbihlpicjpaaW.PrintMore
attribute [local go_sem] max2_int min2_int max_two min_two max_three min_three max_four min_four cellIs_set   -- for this text's walks alone
set_option linter.unusedVariables false
set_option linter.unusedSimpArgs false
/-! ### coppicerkeep_KindsStill: function 4 -/
mutual
def coppicerkeep_KindsStill.j0 : Nat → List Int → Bool → Int → Int → Bool → Int → Int → List (List Int) → Int → Int → Option (Bool)
 | 0,_,_,_,_,_,_,_,_,_,_=>none
 | k + 1,x1,x5,x6,x7,x76,x352000,x352001,x352002,x352003,x352004=>if x76 = true then (some false) else (if x6 = 0 then (if x7 < 1 then (coppicerkeep_KindsStill.j1 k x1 x7 true x352000 x352001 x352002 x352003 x352004) else (if x5 = true then ((coppicerkeep_good.f k x352000 x352001 x352002 x352003 x352004 x1).bind fun t370=>(if t370 = true then (if (x1.length : Int) = 0 then (coppicerkeep_KindsStill.j1 k x1 x7 true x352000 x352001 x352002 x352003 x352004) else (coppicerkeep_KindsStill.j1 k x1 x7 (decide ((wrap64 ((x1.length : Int) * (wrap64 (x7 + 1)))) > 12)) x352000 x352001 x352002 x352003 x352004)) else (coppicerkeep_KindsStill.j1 k x1 x7 true x352000 x352001 x352002 x352003 x352004))) else (coppicerkeep_KindsStill.j1 k x1 x7 true x352000 x352001 x352002 x352003 x352004))) else (if x6 = 1 then (some (x7 == 0)) else (some false)))
def coppicerkeep_KindsStill.j1 : Nat → List Int → Int → Bool → Int → Int → List (List Int) → Int → Int → Option (Bool)
 | 0,_,_,_,_,_,_,_,_=>none
 | k + 1,x1,x7,x109,x352000,x352001,x352002,x352003,x352004=>if x109 = true then (some (decide (x7 ≥ 1))) else ((coppicerref_Again.f k x1 x7).bind fun t371=>((coppicerref_Again.f k x1 (wrap64 (x7 + 1))).bind fun t374=>((kinds_Same.f k x352000 x352001 x352002 x352003 x352004 t371 t374).bind fun bt377=>(if bt377.2 = 0 then (some bt377.1) else (some false)))))
end
def coppicerkeep_KindsStill.f (k : Nat) (a0_0 : Int) (a0_1 : Int) (l0_2 : List (List Int)) (a0_3 : Int) (a0_4 : Int) (l1 : List Int) : Option (Bool):=(kinds_Still.f k a0_0 a0_1 l0_2 a0_3 a0_4).bind fun bt352=>((kinds_Size.f k a0_0 a0_1 l0_2 a0_3 a0_4).bind fun bt354=>((coppicerref_MachineCheck.f k a0_0 a0_1 l0_2 a0_3 a0_4).bind fun t356=>(if t356 = 0 then ((machine_Not.f k a0_0 a0_1 l0_2 a0_3 a0_4).bind fun bt357=>((kinds_Still.f k bt357.1 bt357.2.1 bt357.2.2.1 bt357.2.2.2.1 bt357.2.2.2.2.1).bind fun bt366=>((kinds_Size.f k bt357.1 bt357.2.1 bt357.2.2.1 bt357.2.2.2.1 bt357.2.2.2.2.1).bind fun bt368=>(if bt357.2.2.2.2.2 = 0 then (if bt352.2 = bt354.2 then (if bt366.2 = bt352.2 then (if bt368.2 = bt354.2 then (if (bt352.1 != bt366.1) = true then (coppicerkeep_KindsStill.j0 k l1 bt352.1 bt352.2 bt354.1 true a0_0 a0_1 l0_2 a0_3 a0_4) else (coppicerkeep_KindsStill.j0 k l1 bt352.1 bt352.2 bt354.1 (bt354.1 != bt368.1) a0_0 a0_1 l0_2 a0_3 a0_4)) else (coppicerkeep_KindsStill.j0 k l1 bt352.1 bt352.2 bt354.1 true a0_0 a0_1 l0_2 a0_3 a0_4)) else (coppicerkeep_KindsStill.j0 k l1 bt352.1 bt352.2 bt354.1 true a0_0 a0_1 l0_2 a0_3 a0_4)) else (coppicerkeep_KindsStill.j0 k l1 bt352.1 bt352.2 bt354.1 true a0_0 a0_1 l0_2 a0_3 a0_4)) else (coppicerkeep_KindsStill.j0 k l1 bt352.1 bt352.2 bt354.1 true a0_0 a0_1 l0_2 a0_3 a0_4))))) else (if bt352.2 = 0 then (some false) else (some (bt354.2 != 0))))))
theorem coppicerkeep_KindsStill.mono_l : ∀ k,(∀ y0 y1 y2 y3 y4 y5 y6 y7 y8 y9,LeO (coppicerkeep_KindsStill.j0 k y0 y1 y2 y3 y4 y5 y6 y7 y8 y9) (coppicerkeep_KindsStill.j0 (k + 1) y0 y1 y2 y3 y4 y5 y6 y7 y8 y9)) ∧ (∀ y0 y1 y2 y3 y4 y5 y6 y7,LeO (coppicerkeep_KindsStill.j1 k y0 y1 y2 y3 y4 y5 y6 y7) (coppicerkeep_KindsStill.j1 (k + 1) y0 y1 y2 y3 y4 y5 y6 y7))
 | 0=>⟨fun _ _ _ _ _ _ _ _ _ _ r h=>by simp [coppicerkeep_KindsStill.j0] at h,fun _ _ _ _ _ _ _ _ r h=>by simp [coppicerkeep_KindsStill.j1] at h⟩
 | k + 1=>by
  obtain ⟨ih0,ih1⟩:=coppicerkeep_KindsStill.mono_l k
  refine ⟨?_,?_⟩
  ·intro y0 y1 y2 y3 y4 y5 y6 y7 y8 y9
   unfold coppicerkeep_KindsStill.j0
   repeat' first
   | (with_reducible exact ih0 _ _ _ _ _ _ _ _ _ _)
   | (with_reducible exact ih1 _ _ _ _ _ _ _ _)
   | (with_reducible exact coppicerkeep_good.mono _ _ _ _ _ _ _)
   | (with_reducible exact coppicerref_Again.mono _ _ _)
   | (with_reducible exact coppicerref_MachineCheck.mono _ _ _ _ _ _)
   | (with_reducible exact kinds_Same.mono _ _ _ _ _ _ _ _)
   | (with_reducible exact kinds_Size.mono _ _ _ _ _ _)
   | (with_reducible exact kinds_Still.mono _ _ _ _ _ _)
   | (with_reducible exact machine_Not.mono _ _ _ _ _ _)
   | (with_reducible exact LeO.refl _)
   | (with_reducible exact LeO.none _)
   | (with_reducible refine LeO.ite ?_ ?_)
   | (with_reducible refine LeO.bind ?_ (fun _=>?_))
   | exact ih0 _ _ _ _ _ _ _ _ _ _
   | exact ih1 _ _ _ _ _ _ _ _
   | exact coppicerkeep_good.mono _ _ _ _ _ _ _
   | exact coppicerref_Again.mono _ _ _
   | exact coppicerref_MachineCheck.mono _ _ _ _ _ _
   | exact kinds_Same.mono _ _ _ _ _ _ _ _
   | exact kinds_Size.mono _ _ _ _ _ _
   | exact kinds_Still.mono _ _ _ _ _ _
   | exact machine_Not.mono _ _ _ _ _ _
   | exact LeO.none _
   | refine LeO.ite ?_ ?_
   | refine LeO.bind ?_ (fun _=>?_)
  ·intro y0 y1 y2 y3 y4 y5 y6 y7
   unfold coppicerkeep_KindsStill.j1
   repeat' first
   | (with_reducible exact ih0 _ _ _ _ _ _ _ _ _ _)
   | (with_reducible exact ih1 _ _ _ _ _ _ _ _)
   | (with_reducible exact coppicerkeep_good.mono _ _ _ _ _ _ _)
   | (with_reducible exact coppicerref_Again.mono _ _ _)
   | (with_reducible exact coppicerref_MachineCheck.mono _ _ _ _ _ _)
   | (with_reducible exact kinds_Same.mono _ _ _ _ _ _ _ _)
   | (with_reducible exact kinds_Size.mono _ _ _ _ _ _)
   | (with_reducible exact kinds_Still.mono _ _ _ _ _ _)
   | (with_reducible exact machine_Not.mono _ _ _ _ _ _)
   | (with_reducible exact LeO.refl _)
   | (with_reducible exact LeO.none _)
   | (with_reducible refine LeO.ite ?_ ?_)
   | (with_reducible refine LeO.bind ?_ (fun _=>?_))
   | exact ih0 _ _ _ _ _ _ _ _ _ _
   | exact ih1 _ _ _ _ _ _ _ _
   | exact coppicerkeep_good.mono _ _ _ _ _ _ _
   | exact coppicerref_Again.mono _ _ _
   | exact coppicerref_MachineCheck.mono _ _ _ _ _ _
   | exact kinds_Same.mono _ _ _ _ _ _ _ _
   | exact kinds_Size.mono _ _ _ _ _ _
   | exact kinds_Still.mono _ _ _ _ _ _
   | exact machine_Not.mono _ _ _ _ _ _
   | exact LeO.none _
   | refine LeO.ite ?_ ?_
   | refine LeO.bind ?_ (fun _=>?_)
theorem coppicerkeep_KindsStill.mono : ∀ a0 a1 a2 a3 a4 a5 k,LeO (coppicerkeep_KindsStill.f k a0 a1 a2 a3 a4 a5) (coppicerkeep_KindsStill.f (k + 1) a0 a1 a2 a3 a4 a5):=by
 intro a0 a1 a2 a3 a4 a5 k
 obtain ⟨ih0,ih1⟩:=coppicerkeep_KindsStill.mono_l k
 unfold coppicerkeep_KindsStill.f
 repeat' first
   | (with_reducible exact ih0 _ _ _ _ _ _ _ _ _ _)
   | (with_reducible exact ih1 _ _ _ _ _ _ _ _)
   | (with_reducible exact coppicerkeep_good.mono _ _ _ _ _ _ _)
   | (with_reducible exact coppicerref_Again.mono _ _ _)
   | (with_reducible exact coppicerref_MachineCheck.mono _ _ _ _ _ _)
   | (with_reducible exact kinds_Same.mono _ _ _ _ _ _ _ _)
   | (with_reducible exact kinds_Size.mono _ _ _ _ _ _)
   | (with_reducible exact kinds_Still.mono _ _ _ _ _ _)
   | (with_reducible exact machine_Not.mono _ _ _ _ _ _)
   | (with_reducible exact LeO.refl _)
   | (with_reducible exact LeO.none _)
   | (with_reducible refine LeO.ite ?_ ?_)
   | (with_reducible refine LeO.bind ?_ (fun _=>?_))
   | exact ih0 _ _ _ _ _ _ _ _ _ _
   | exact ih1 _ _ _ _ _ _ _ _
   | exact coppicerkeep_good.mono _ _ _ _ _ _ _
   | exact coppicerref_Again.mono _ _ _
   | exact coppicerref_MachineCheck.mono _ _ _ _ _ _
   | exact kinds_Same.mono _ _ _ _ _ _ _ _
   | exact kinds_Size.mono _ _ _ _ _ _
   | exact kinds_Still.mono _ _ _ _ _ _
   | exact machine_Not.mono _ _ _ _ _ _
   | exact LeO.none _
   | refine LeO.ite ?_ ?_
   | refine LeO.bind ?_ (fun _=>?_)
def coppicerkeep_KindsStill.T14 : Bool × List (List Nat × List Nat):=(true,[([],[]),([],[]),([],[]),([1,2],[1,2]),([],[]),([],[]),([5],[5]),([4,6,3],[4,6]),([0,3,7,7],[0,3,7]),([8],[8]),([9],[9]),([9],[9]),([10,8,0,1,2,3,4,5,6,7,8,9,10],[10]),([11,12,0,1,2,3,4,5,6,7,8,9,10,11,12],[11])])
def coppicerkeep_KindsStill.B14 : List Nat:=[0,0,0,6,0,0,32,126,255,511,1023,1023,2047,8191]
theorem coppicerkeep_KindsStill.tab14 : rtab .any (opsOf Try.f4 14) = coppicerkeep_KindsStill.T14:=by kernel_rfl
theorem coppicerkeep_KindsStill.bits14 : waitsOk coppicerkeep_KindsStill.T14.2 coppicerkeep_KindsStill.B14 = true:=by kernel_rfl
theorem qDs21_ {p q : Prop} (H : q) (h : q → p:=by intro h_;(with_reducible repeat (first|refine blk_drewN ?_ _|refine blk_drew ?_|refine blk_alloc ?_ _));exact h_) : p:=h H
theorem qRs21_ {p q : Prop} (H : q) (h : q → p:=by intro h_;(with_reducible repeat (first|apply Kd.R_alloc|apply Kd.R_drewN|apply Kd.R_drew));exact h_) : p:=h H
theorem qBs21_2 {p : Prop} (h : p:=by repeat (first|(with_reducible first|exact HB.out|apply below_alloc|apply pw_below_drewN|apply below_drew1)|exact HB.out)) : p:=h
theorem qBs21_3 {p : Prop} (h : p:=by repeat (first|(with_reducible first|exact HB.out|apply below_alloc|apply pw_below_drewN|apply below_drew1|refine below_set ?_ Ah.out)|exact HB.out)) : p:=h
theorem qBs21_4 {p : Prop} (h : p:=by repeat (first|(with_reducible first|exact HB.out|apply below_alloc|apply pw_below_drewN|apply below_drew1|refine below_set ?_ Ah.out|refine below_set ?_ An.out)|exact HB.out)) : p:=h
theorem qAs21_5 {p : Prop} (h : p:=by (try simp only [List.map_toArray,List.map_cons,List.map_nil]);first|done|rfl|(simp only [List.length_drop,List.length_take];rfl)) : p:=h
set_option maxHeartbeats 8000000 in
set_option maxRecDepth 100000 in
theorem coppicerkeep_KindsStill.calls (k : Nat) (a0_0 : Int) (a0_1 : Int) (A0_2 : Option Addr) (c0_2 : Nat) (l0_2 : List (List Int)) (a0_3 : Int) (a0_4 : Int) (A1 : Option Addr) (c1 : Nat) (l1 : List Int) (r : Bool) (w : World) (hr0_2 : Kd.C (Kd.slice 3 (Kd.int .i64)) w A0_2 l0_2.length l0_2) (hc0_2 : l0_2.length ≤ c0_2) (hr1 : Kd.C (Kd.int .i64) w A1 l1.length l1) (hc1 : l1.length ≤ c1) (h : coppicerkeep_KindsStill.f k a0_0 a0_1 l0_2 a0_3 a0_4 l1 = some r) :
  Calls Try.prog 4 #[.agg #[.int .i64 a0_0,.int .i64 a0_1,.slice A0_2 l0_2.length c0_2,.int .i64 a0_3,.int .u32 a0_4],.slice A1 l1.length c1] w fun e w'=>e = .returned (.bool r) ∧ Below w.heap.size w w':=by
 have hu25:=Try.underlying25
 have HR0_2:=Aside0.mk hr0_2
 have HC0_2:=Aside0.mk hc0_2
 clear hr0_2 hc0_2
 have HR1:=Aside0.mk hr1
 have HC1:=Aside0.mk hc1
 clear hr1 hc1
 have HB:=Aside0.mk (Below.refl w.heap.size w)
 have H : ((kinds_Still.f k a0_0 a0_1 l0_2 a0_3 a0_4).bind fun bt352=>((kinds_Size.f k a0_0 a0_1 l0_2 a0_3 a0_4).bind fun bt354=>((coppicerref_MachineCheck.f k a0_0 a0_1 l0_2 a0_3 a0_4).bind fun t356=>(if t356 = 0 then ((machine_Not.f k a0_0 a0_1 l0_2 a0_3 a0_4).bind fun bt357=>((kinds_Still.f k bt357.1 bt357.2.1 bt357.2.2.1 bt357.2.2.2.1 bt357.2.2.2.2.1).bind fun bt366=>((kinds_Size.f k bt357.1 bt357.2.1 bt357.2.2.1 bt357.2.2.2.1 bt357.2.2.2.2.1).bind fun bt368=>(if bt357.2.2.2.2.2 = 0 then (if bt352.2 = bt354.2 then (if bt366.2 = bt352.2 then (if bt368.2 = bt354.2 then (if (bt352.1 != bt366.1) = true then (coppicerkeep_KindsStill.j0 k l1 bt352.1 bt352.2 bt354.1 true a0_0 a0_1 l0_2 a0_3 a0_4) else (coppicerkeep_KindsStill.j0 k l1 bt352.1 bt352.2 bt354.1 (bt354.1 != bt368.1) a0_0 a0_1 l0_2 a0_3 a0_4)) else (coppicerkeep_KindsStill.j0 k l1 bt352.1 bt352.2 bt354.1 true a0_0 a0_1 l0_2 a0_3 a0_4)) else (coppicerkeep_KindsStill.j0 k l1 bt352.1 bt352.2 bt354.1 true a0_0 a0_1 l0_2 a0_3 a0_4)) else (coppicerkeep_KindsStill.j0 k l1 bt352.1 bt352.2 bt354.1 true a0_0 a0_1 l0_2 a0_3 a0_4)) else (coppicerkeep_KindsStill.j0 k l1 bt352.1 bt352.2 bt354.1 true a0_0 a0_1 l0_2 a0_3 a0_4))))) else (if bt352.2 = 0 then (some false) else (some (bt354.2 != 0))))))) = some r:=h
 clear h
 replace H:=Option.bind_eq_some_iff.mp H
 obtain ⟨⟨t352,t353⟩,A30,H⟩:=H
 replace H : ((kinds_Size.f k a0_0 a0_1 l0_2 a0_3 a0_4).bind fun bt354=>((coppicerref_MachineCheck.f k a0_0 a0_1 l0_2 a0_3 a0_4).bind fun t356=>(if t356 = 0 then ((machine_Not.f k a0_0 a0_1 l0_2 a0_3 a0_4).bind fun bt357=>((kinds_Still.f k bt357.1 bt357.2.1 bt357.2.2.1 bt357.2.2.2.1 bt357.2.2.2.2.1).bind fun bt366=>((kinds_Size.f k bt357.1 bt357.2.1 bt357.2.2.1 bt357.2.2.2.1 bt357.2.2.2.2.1).bind fun bt368=>(if bt357.2.2.2.2.2 = 0 then (if t353 = bt354.2 then (if bt366.2 = t353 then (if bt368.2 = bt354.2 then (if (t352 != bt366.1) = true then (coppicerkeep_KindsStill.j0 k l1 t352 t353 bt354.1 true a0_0 a0_1 l0_2 a0_3 a0_4) else (coppicerkeep_KindsStill.j0 k l1 t352 t353 bt354.1 (bt354.1 != bt368.1) a0_0 a0_1 l0_2 a0_3 a0_4)) else (coppicerkeep_KindsStill.j0 k l1 t352 t353 bt354.1 true a0_0 a0_1 l0_2 a0_3 a0_4)) else (coppicerkeep_KindsStill.j0 k l1 t352 t353 bt354.1 true a0_0 a0_1 l0_2 a0_3 a0_4)) else (coppicerkeep_KindsStill.j0 k l1 t352 t353 bt354.1 true a0_0 a0_1 l0_2 a0_3 a0_4)) else (coppicerkeep_KindsStill.j0 k l1 t352 t353 bt354.1 true a0_0 a0_1 l0_2 a0_3 a0_4))))) else (if t353 = 0 then (some false) else (some (bt354.2 != 0)))))) = some r:=H
 have A3:=Aside0.mk A30
 clear A30
 replace H:=Option.bind_eq_some_iff.mp H
 obtain ⟨⟨Ae,Ao⟩,A40,H⟩:=H
 replace H : ((coppicerref_MachineCheck.f k a0_0 a0_1 l0_2 a0_3 a0_4).bind fun t356=>(if t356 = 0 then ((machine_Not.f k a0_0 a0_1 l0_2 a0_3 a0_4).bind fun bt357=>((kinds_Still.f k bt357.1 bt357.2.1 bt357.2.2.1 bt357.2.2.2.1 bt357.2.2.2.2.1).bind fun bt366=>((kinds_Size.f k bt357.1 bt357.2.1 bt357.2.2.1 bt357.2.2.2.1 bt357.2.2.2.2.1).bind fun bt368=>(if bt357.2.2.2.2.2 = 0 then (if t353 = Ao then (if bt366.2 = t353 then (if bt368.2 = Ao then (if (t352 != bt366.1) = true then (coppicerkeep_KindsStill.j0 k l1 t352 t353 Ae true a0_0 a0_1 l0_2 a0_3 a0_4) else (coppicerkeep_KindsStill.j0 k l1 t352 t353 Ae (Ae != bt368.1) a0_0 a0_1 l0_2 a0_3 a0_4)) else (coppicerkeep_KindsStill.j0 k l1 t352 t353 Ae true a0_0 a0_1 l0_2 a0_3 a0_4)) else (coppicerkeep_KindsStill.j0 k l1 t352 t353 Ae true a0_0 a0_1 l0_2 a0_3 a0_4)) else (coppicerkeep_KindsStill.j0 k l1 t352 t353 Ae true a0_0 a0_1 l0_2 a0_3 a0_4)) else (coppicerkeep_KindsStill.j0 k l1 t352 t353 Ae true a0_0 a0_1 l0_2 a0_3 a0_4))))) else (if t353 = 0 then (some false) else (some (Ao != 0))))) = some r:=H
 have A4:=Aside0.mk A40
 clear A40
 replace H:=Option.bind_eq_some_iff.mp H
 obtain ⟨t356,A50,H⟩:=H
 replace H : (if t356 = 0 then ((machine_Not.f k a0_0 a0_1 l0_2 a0_3 a0_4).bind fun bt357=>((kinds_Still.f k bt357.1 bt357.2.1 bt357.2.2.1 bt357.2.2.2.1 bt357.2.2.2.2.1).bind fun bt366=>((kinds_Size.f k bt357.1 bt357.2.1 bt357.2.2.1 bt357.2.2.2.1 bt357.2.2.2.2.1).bind fun bt368=>(if bt357.2.2.2.2.2 = 0 then (if t353 = Ao then (if bt366.2 = t353 then (if bt368.2 = Ao then (if (t352 != bt366.1) = true then (coppicerkeep_KindsStill.j0 k l1 t352 t353 Ae true a0_0 a0_1 l0_2 a0_3 a0_4) else (coppicerkeep_KindsStill.j0 k l1 t352 t353 Ae (Ae != bt368.1) a0_0 a0_1 l0_2 a0_3 a0_4)) else (coppicerkeep_KindsStill.j0 k l1 t352 t353 Ae true a0_0 a0_1 l0_2 a0_3 a0_4)) else (coppicerkeep_KindsStill.j0 k l1 t352 t353 Ae true a0_0 a0_1 l0_2 a0_3 a0_4)) else (coppicerkeep_KindsStill.j0 k l1 t352 t353 Ae true a0_0 a0_1 l0_2 a0_3 a0_4)) else (coppicerkeep_KindsStill.j0 k l1 t352 t353 Ae true a0_0 a0_1 l0_2 a0_3 a0_4))))) else (if t353 = 0 then (some false) else (some (Ao != 0)))) = some r:=H
 have A5:=Aside0.mk A50
 clear A50
 by_cases c6 : t356 = 0
 ·rw [if_pos c6] at H
  have c6b0 : (t356 == 0) = true:=beq_iff_eq.mpr c6
  have c6b1 : (t356 != 0) = false:=bne_eq_false_iff_eq.mpr c6
  clear c6
  replace H:=Option.bind_eq_some_iff.mp H
  obtain ⟨⟨Al,Am,Ai,Ap,Aq,t364⟩,A70,H⟩:=H
  replace H : ((kinds_Still.f k Al Am Ai Ap Aq).bind fun bt366=>((kinds_Size.f k Al Am Ai Ap Aq).bind fun bt368=>(if t364 = 0 then (if t353 = Ao then (if bt366.2 = t353 then (if bt368.2 = Ao then (if (t352 != bt366.1) = true then (coppicerkeep_KindsStill.j0 k l1 t352 t353 Ae true a0_0 a0_1 l0_2 a0_3 a0_4) else (coppicerkeep_KindsStill.j0 k l1 t352 t353 Ae (Ae != bt368.1) a0_0 a0_1 l0_2 a0_3 a0_4)) else (coppicerkeep_KindsStill.j0 k l1 t352 t353 Ae true a0_0 a0_1 l0_2 a0_3 a0_4)) else (coppicerkeep_KindsStill.j0 k l1 t352 t353 Ae true a0_0 a0_1 l0_2 a0_3 a0_4)) else (coppicerkeep_KindsStill.j0 k l1 t352 t353 Ae true a0_0 a0_1 l0_2 a0_3 a0_4)) else (coppicerkeep_KindsStill.j0 k l1 t352 t353 Ae true a0_0 a0_1 l0_2 a0_3 a0_4)))) = some r:=H
  have A7:=Aside0.mk A70
  clear A70
  replace H:=Option.bind_eq_some_iff.mp H
  obtain ⟨⟨Ay,t367⟩,A80,H⟩:=H
  replace H : ((kinds_Size.f k Al Am Ai Ap Aq).bind fun bt368=>(if t364 = 0 then (if t353 = Ao then (if t367 = t353 then (if bt368.2 = Ao then (if (t352 != Ay) = true then (coppicerkeep_KindsStill.j0 k l1 t352 t353 Ae true a0_0 a0_1 l0_2 a0_3 a0_4) else (coppicerkeep_KindsStill.j0 k l1 t352 t353 Ae (Ae != bt368.1) a0_0 a0_1 l0_2 a0_3 a0_4)) else (coppicerkeep_KindsStill.j0 k l1 t352 t353 Ae true a0_0 a0_1 l0_2 a0_3 a0_4)) else (coppicerkeep_KindsStill.j0 k l1 t352 t353 Ae true a0_0 a0_1 l0_2 a0_3 a0_4)) else (coppicerkeep_KindsStill.j0 k l1 t352 t353 Ae true a0_0 a0_1 l0_2 a0_3 a0_4)) else (coppicerkeep_KindsStill.j0 k l1 t352 t353 Ae true a0_0 a0_1 l0_2 a0_3 a0_4))) = some r:=H
  have A8:=Aside0.mk A80
  clear A80
  replace H:=Option.bind_eq_some_iff.mp H
  obtain ⟨⟨t368,t369⟩,A90,H⟩:=H
  replace H : (if t364 = 0 then (if t353 = Ao then (if t367 = t353 then (if t369 = Ao then (if (t352 != Ay) = true then (coppicerkeep_KindsStill.j0 k l1 t352 t353 Ae true a0_0 a0_1 l0_2 a0_3 a0_4) else (coppicerkeep_KindsStill.j0 k l1 t352 t353 Ae (Ae != t368) a0_0 a0_1 l0_2 a0_3 a0_4)) else (coppicerkeep_KindsStill.j0 k l1 t352 t353 Ae true a0_0 a0_1 l0_2 a0_3 a0_4)) else (coppicerkeep_KindsStill.j0 k l1 t352 t353 Ae true a0_0 a0_1 l0_2 a0_3 a0_4)) else (coppicerkeep_KindsStill.j0 k l1 t352 t353 Ae true a0_0 a0_1 l0_2 a0_3 a0_4)) else (coppicerkeep_KindsStill.j0 k l1 t352 t353 Ae true a0_0 a0_1 l0_2 a0_3 a0_4)) = some r:=H
  have A9:=Aside0.mk A90
  clear A90
  have HC10:=Aside0.mk H
  clear H
  go_enter Try.func4,Try.ntmps4
  go_upto_region 8 with (first|((with_reducible refine gate_dst (N:=2) rfl ?_);(try (refine gate_guard (by rfl) ?_;dsimp only));refine box_event ?hg (N:=2) ?hd (cs:=#[.int .i64 a0_0,.int .i64 a0_1,.slice A0_2 l0_2.length c0_2,.int .i64 a0_3,.int .u32 a0_4]) (t:=25) ?hr ?_;(case hd=>rfl);(case hg=>rfl);(case hr=>first|(go_simp;done)|(go_simp;rfl));intro Ab hg w11 hbox hb;have n0_:=Aside0.mk (below_step qBs21_2 hb);have n1_:=Aside0.mk (hbox);have n2_:=Aside0.mk ((by rw [hg];exact (below_size qBs21_2) : w.heap.size ≤ Ab));have n3_:=Aside0.mk ((by rw [hg];exact (below_size qBs21_2) : w.heap.size ≤ Ab));clear HB;have HB:=n0_;have Aa:=n1_;have GW351:=n2_;have Ah:=n3_;clear n0_ n1_ n2_ n3_;clear hb hbox hg;have hcz12_0 : w11.cell? ⟨Ab,0,none⟩ = some (.int .i64 a0_0):=(blk_cell Aa.out 0).trans rfl;have hcz12_1 : w11.cell? ⟨Ab,1,none⟩ = some (.int .i64 a0_1):=(blk_cell Aa.out 1).trans rfl;have hcz12_2 : w11.cell? ⟨Ab,2,none⟩ = some (.slice A0_2 l0_2.length c0_2):=(blk_cell Aa.out 2).trans rfl;have hcz12_3 : w11.cell? ⟨Ab,3,none⟩ = some (.int .i64 a0_3):=(blk_cell Aa.out 3).trans rfl;have hcz12_4 : w11.cell? ⟨Ab,4,none⟩ = some (.int .u32 a0_4):=(blk_cell Aa.out 4).trans rfl;have hfz12_0:=blk_frozen Aa.out 0;have hfz12_1:=blk_frozen Aa.out 1;have hfz12_2:=blk_frozen Aa.out 2;have hfz12_3:=blk_frozen Aa.out 3;have hfz12_4:=blk_frozen Aa.out 4)|((with_reducible refine gate_callee (f:=8) rfl ?_);refine goesL_ (some 18) rfl rfl Try.func8 (by kernel_rfl) rfl #[.agg #[.int .i64 a0_0,.int .i64 a0_1,.slice A0_2 l0_2.length c0_2,.int .i64 a0_3,.int .u32 a0_4]] rfl qAs21_5 ?_;(with_reducible refine (kinds_Still.calls k a0_0 a0_1 _ _ l0_2 a0_3 a0_4 t352 t353 _ ?side1 ?side2 A3.out).mono ?_);(case side1=>repeat (first|exact (Kd.C_below HR0_2.out HB.out)|(with_reducible refine Kd.C_alloc ?_ _)|(with_reducible refine Kd.C_drewN ?_ _)|(with_reducible refine Kd.C_drew ?_)));(case side2=>exact HC0_2.out);rintro e w13 ⟨rfl,hb⟩;refine ⟨_,rfl,?_⟩;have n0_:=Aside0.mk (blk_below (g:=Ab) (o:=.cells #[.int .i64 a0_0,.int .i64 a0_1,.slice A0_2 l0_2.length c0_2,.int .i64 a0_3,.int .u32 a0_4] 25 (0,0)) (qDs21_ Aa.out) hb);have n1_:=Aside0.mk (below_step qBs21_3 hb);clear Aa;clear HB;have Aa:=n0_;have HB:=n1_;clear n0_ n1_;(try clear hb);(try clear hb2);(try clear hk);(try clear hi);have hcz14_0 : w13.cell? ⟨Ab,0,none⟩ = some (.int .i64 a0_0):=(blk_cell Aa.out 0).trans rfl;have hcz14_1 : w13.cell? ⟨Ab,1,none⟩ = some (.int .i64 a0_1):=(blk_cell Aa.out 1).trans rfl;have hcz14_2 : w13.cell? ⟨Ab,2,none⟩ = some (.slice A0_2 l0_2.length c0_2):=(blk_cell Aa.out 2).trans rfl;have hcz14_3 : w13.cell? ⟨Ab,3,none⟩ = some (.int .i64 a0_3):=(blk_cell Aa.out 3).trans rfl;have hcz14_4 : w13.cell? ⟨Ab,4,none⟩ = some (.int .u32 a0_4):=(blk_cell Aa.out 4).trans rfl;have hfz14_0:=blk_frozen Aa.out 0;have hfz14_1:=blk_frozen Aa.out 1;have hfz14_2:=blk_frozen Aa.out 2;have hfz14_3:=blk_frozen Aa.out 3;have hfz14_4:=blk_frozen Aa.out 4)|((with_reducible refine gate_callee (f:=9) rfl ?_);refine goesL_ (some 23) rfl rfl Try.func9 (by kernel_rfl) rfl #[.agg #[.int .i64 a0_0,.int .i64 a0_1,.slice A0_2 l0_2.length c0_2,.int .i64 a0_3,.int .u32 a0_4]] rfl qAs21_5 ?_;(with_reducible refine (kinds_Size.calls k a0_0 a0_1 _ _ l0_2 a0_3 a0_4 Ae Ao _ ?side1 ?side2 A4.out).mono ?_);(case side1=>repeat (first|exact (Kd.C_below HR0_2.out HB.out)|(with_reducible refine Kd.C_alloc ?_ _)|(with_reducible refine Kd.C_drewN ?_ _)|(with_reducible refine Kd.C_drew ?_)));(case side2=>exact HC0_2.out);rintro e w15 ⟨rfl,hb⟩;refine ⟨_,rfl,?_⟩;have n0_:=Aside0.mk (blk_below (g:=Ab) (o:=.cells #[.int .i64 a0_0,.int .i64 a0_1,.slice A0_2 l0_2.length c0_2,.int .i64 a0_3,.int .u32 a0_4] 25 (0,0)) (qDs21_ Aa.out) hb);have n1_:=Aside0.mk (below_step qBs21_3 hb);clear Aa;clear HB;have Aa:=n0_;have HB:=n1_;clear n0_ n1_;(try clear hb);(try clear hb2);(try clear hk);(try clear hi);have hcz16_0 : w15.cell? ⟨Ab,0,none⟩ = some (.int .i64 a0_0):=(blk_cell Aa.out 0).trans rfl;have hcz16_1 : w15.cell? ⟨Ab,1,none⟩ = some (.int .i64 a0_1):=(blk_cell Aa.out 1).trans rfl;have hcz16_2 : w15.cell? ⟨Ab,2,none⟩ = some (.slice A0_2 l0_2.length c0_2):=(blk_cell Aa.out 2).trans rfl;have hcz16_3 : w15.cell? ⟨Ab,3,none⟩ = some (.int .i64 a0_3):=(blk_cell Aa.out 3).trans rfl;have hcz16_4 : w15.cell? ⟨Ab,4,none⟩ = some (.int .u32 a0_4):=(blk_cell Aa.out 4).trans rfl;have hfz16_0:=blk_frozen Aa.out 0;have hfz16_1:=blk_frozen Aa.out 1;have hfz16_2:=blk_frozen Aa.out 2;have hfz16_3:=blk_frozen Aa.out 3;have hfz16_4:=blk_frozen Aa.out 4)|((with_reducible refine gate_callee (f:=10) rfl ?_);refine goesL_ (some 27) rfl rfl Try.func10 (by kernel_rfl) rfl #[.agg #[.int .i64 a0_0,.int .i64 a0_1,.slice A0_2 l0_2.length c0_2,.int .i64 a0_3,.int .u32 a0_4]] rfl qAs21_5 ?_;(with_reducible refine (coppicerref_MachineCheck.calls k a0_0 a0_1 _ _ l0_2 a0_3 a0_4 t356 _ ?side1 ?side2 A5.out).mono ?_);(case side1=>repeat (first|exact (Kd.C_below HR0_2.out HB.out)|(with_reducible refine Kd.C_alloc ?_ _)|(with_reducible refine Kd.C_drewN ?_ _)|(with_reducible refine Kd.C_drew ?_)));(case side2=>exact HC0_2.out);rintro e w17 ⟨rfl,hb⟩;refine ⟨_,rfl,?_⟩;have n0_:=Aside0.mk (blk_below (g:=Ab) (o:=.cells #[.int .i64 a0_0,.int .i64 a0_1,.slice A0_2 l0_2.length c0_2,.int .i64 a0_3,.int .u32 a0_4] 25 (0,0)) (qDs21_ Aa.out) hb);have n1_:=Aside0.mk (below_step qBs21_3 hb);clear Aa;clear HB;have Aa:=n0_;have HB:=n1_;clear n0_ n1_;(try clear hb);(try clear hb2);(try clear hk);(try clear hi);have hcz18_0 : w17.cell? ⟨Ab,0,none⟩ = some (.int .i64 a0_0):=(blk_cell Aa.out 0).trans rfl;have hcz18_1 : w17.cell? ⟨Ab,1,none⟩ = some (.int .i64 a0_1):=(blk_cell Aa.out 1).trans rfl;have hcz18_2 : w17.cell? ⟨Ab,2,none⟩ = some (.slice A0_2 l0_2.length c0_2):=(blk_cell Aa.out 2).trans rfl;have hcz18_3 : w17.cell? ⟨Ab,3,none⟩ = some (.int .i64 a0_3):=(blk_cell Aa.out 3).trans rfl;have hcz18_4 : w17.cell? ⟨Ab,4,none⟩ = some (.int .u32 a0_4):=(blk_cell Aa.out 4).trans rfl;have hfz18_0:=blk_frozen Aa.out 0;have hfz18_1:=blk_frozen Aa.out 1;have hfz18_2:=blk_frozen Aa.out 2;have hfz18_3:=blk_frozen Aa.out 3;have hfz18_4:=blk_frozen Aa.out 4)|((with_reducible refine gate_callee (f:=11) rfl ?_);refine goesL_ (some 37) rfl rfl Try.func11 (by kernel_rfl) rfl #[.agg #[.int .i64 a0_0,.int .i64 a0_1,.slice A0_2 l0_2.length c0_2,.int .i64 a0_3,.int .u32 a0_4]] rfl qAs21_5 ?_;(with_reducible refine (machine_Not.calls k a0_0 a0_1 _ _ l0_2 a0_3 a0_4 Al Am Ai Ap Aq t364 _ ?side1 ?side2 A7.out).mono ?_);(case side1=>repeat (first|exact (Kd.C_below HR0_2.out HB.out)|(with_reducible refine Kd.C_alloc ?_ _)|(with_reducible refine Kd.C_drewN ?_ _)|(with_reducible refine Kd.C_drew ?_)));(case side2=>exact HC0_2.out);rintro e w19 ⟨v360,rfl,ho0,hb⟩;refine ⟨_,rfl,?_⟩;have n0_:=Aside0.mk (Kd.S_lower ho0 (below_size qBs21_3));have n1_:=Aside0.mk (blk_below (g:=Ab) (o:=.cells #[.int .i64 a0_0,.int .i64 a0_1,.slice A0_2 l0_2.length c0_2,.int .i64 a0_3,.int .u32 a0_4] 25 (0,0)) (qDs21_ Aa.out) hb);have n2_:=Aside0.mk (below_step qBs21_3 hb);clear Aa;clear HB;have Aj:=n0_;have Aa:=n1_;have HB:=n2_;clear n0_ n1_ n2_;(try clear hb);(try clear hb2);(try clear hk);(try clear hi);(try clear ho0))|((with_reducible refine gate_dst (N:=9) rfl ?_);(try (refine gate_guard (by rfl) ?_;dsimp only));refine box_event ?hg (N:=9) ?hd (cs:=#[.int .i64 0,.int .i64 0,.slice none 0 0,.int .i64 0,.int .u32 0]) (t:=25) ?hr ?_;(case hd=>rfl);(case hg=>rfl);(case hr=>first|(go_simp;done)|(go_simp;rfl));intro Af hg w20 hbox hb;have n0_:=Aside0.mk (Kd.S_below (by (with_reducible repeat (first|apply Kd.S_alloc|apply Kd.S_drewN|apply Kd.S_drew));exact Aj.out) hb);have n1_:=Aside0.mk (blk_below (g:=Ab) (o:=.cells #[.int .i64 a0_0,.int .i64 a0_1,.slice A0_2 l0_2.length c0_2,.int .i64 a0_3,.int .u32 a0_4] 25 (0,0)) (qDs21_ Aa.out) hb);have n2_:=Aside0.mk (below_step qBs21_3 hb);have n3_:=Aside0.mk (hbox);have n4_:=Aside0.mk ((by rw [hg];exact (below_size qBs21_3) : w.heap.size ≤ Af));have n5_:=Aside0.mk ((by rw [hg];exact (below_size qBs21_3) : w.heap.size ≤ Af));have n6_:=Aside0.mk ((by rw [hg];exact Nat.ne_of_lt (blk_lt (g:=Ab) (o:=.cells #[.int .i64 a0_0,.int .i64 a0_1,.slice A0_2 l0_2.length c0_2,.int .i64 a0_3,.int .u32 a0_4] 25 (0,0)) (qDs21_ Aa.out)) : Ab ≠ Af));have n7_:=Aside0.mk ((by rw [hg];exact Nat.ne_of_gt (blk_lt (g:=Ab) (o:=.cells #[.int .i64 a0_0,.int .i64 a0_1,.slice A0_2 l0_2.length c0_2,.int .i64 a0_3,.int .u32 a0_4] 25 (0,0)) (qDs21_ Aa.out)) : Af ≠ Ab));clear Aj;clear Aa;clear HB;have Aj:=n0_;have Aa:=n1_;have HB:=n2_;have Ad:=n3_;have GW365:=n4_;have An:=n5_;have Ag:=n6_;have Au:=n7_;clear n0_ n1_ n2_ n3_ n4_ n5_ n6_ n7_;clear hb hbox hg;have hnb21:=Au.out;have hnc21:=Ag.out;have hcz22_0 : w20.cell? ⟨Af,0,none⟩ = some (.int .i64 0):=(blk_cell Ad.out 0).trans rfl;have hcz22_1 : w20.cell? ⟨Af,1,none⟩ = some (.int .i64 0):=(blk_cell Ad.out 1).trans rfl;have hcz22_2 : w20.cell? ⟨Af,2,none⟩ = some (.slice none 0 0):=(blk_cell Ad.out 2).trans rfl;have hcz22_3 : w20.cell? ⟨Af,3,none⟩ = some (.int .i64 0):=(blk_cell Ad.out 3).trans rfl;have hcz22_4 : w20.cell? ⟨Af,4,none⟩ = some (.int .u32 0):=(blk_cell Ad.out 4).trans rfl;have hfz22_0:=blk_frozen Ad.out 0;have hfz22_1:=blk_frozen Ad.out 1;have hfz22_2:=blk_frozen Ad.out 2;have hfz22_3:=blk_frozen Ad.out 3;have hfz22_4:=blk_frozen Ad.out 4;obtain ⟨As,Ar,eo23⟩:=Kd.S_slice Aj.out;subst eo23)|((with_reducible refine gate_callee (f:=8) rfl ?_);refine goesL_ (some 42) rfl rfl Try.func8 (by kernel_rfl) rfl #[.agg #[.int .i64 Al,.int .i64 Am,.slice As Ai.length Ar,.int .i64 Ap,.int .u32 Aq]] rfl qAs21_5 ?_;(with_reducible refine (kinds_Still.calls k Al Am _ _ Ai Ap Aq Ay t367 _ ?side1 ?side2 A8.out).mono ?_);(case side1=>refine (Kd.S_reads' (e:=26) (base:=w.heap.size) (ok:=fun k_=>True) (n:=Ai.length) (c:=Ar) ?_).2.2;exact (by (with_reducible repeat (first|apply Kd.S_alloc|apply Kd.S_drewN|apply Kd.S_drew));exact (Kd.S_mono (Kd.S_far (p:=⟨Af,4,none⟩) (Kd.S_far (p:=⟨Af,3,none⟩) (Kd.S_far (p:=⟨Af,2,none⟩) (Kd.S_far (p:=⟨Af,1,none⟩) (Kd.S_far (p:=⟨Af,0,none⟩) (Kd.S_types Aj.out Ad.out (by decide)) (fun _ hk=>hk.2) (.int .i64 Al)) (fun _ hk=>hk.2) (.int .i64 Am)) (fun _ hk=>hk.2) (.slice As Ai.length Ar)) (fun _ hk=>hk.2) (.int .i64 Ap)) (fun _ hk=>hk.2) (.int .u32 Aq)) (fun _ h_=>h_.1))));(case side2=>exact (Kd.S_reads' Aj.out).2.1);rintro e w24 ⟨rfl,hb⟩;refine ⟨_,rfl,?_⟩;have n0_:=Aside0.mk (Kd.S_below (by (with_reducible repeat (first|apply Kd.S_alloc|apply Kd.S_drewN|apply Kd.S_drew));exact (Kd.S_mono (Kd.S_far (p:=⟨Af,4,none⟩) (Kd.S_far (p:=⟨Af,3,none⟩) (Kd.S_far (p:=⟨Af,2,none⟩) (Kd.S_far (p:=⟨Af,1,none⟩) (Kd.S_far (p:=⟨Af,0,none⟩) (Kd.S_types Aj.out Ad.out (by decide)) (fun _ hk=>hk.2) (.int .i64 Al)) (fun _ hk=>hk.2) (.int .i64 Am)) (fun _ hk=>hk.2) (.slice As Ai.length Ar)) (fun _ hk=>hk.2) (.int .i64 Ap)) (fun _ hk=>hk.2) (.int .u32 Aq)) (fun _ h_=>h_.1))) hb);have n1_:=Aside0.mk (blk_below (g:=Ab) (o:=.cells #[.int .i64 a0_0,.int .i64 a0_1,.slice A0_2 l0_2.length c0_2,.int .i64 a0_3,.int .u32 a0_4] 25 (0,0)) (by (with_reducible repeat (first|refine blk_drewN ?_ _|refine blk_drew ?_|refine blk_alloc ?_ _));refine blk_far ?_ Ag.out _;(with_reducible repeat (first|refine blk_drewN ?_ _|refine blk_drew ?_|refine blk_alloc ?_ _));refine blk_far ?_ Ag.out _;(with_reducible repeat (first|refine blk_drewN ?_ _|refine blk_drew ?_|refine blk_alloc ?_ _));refine blk_far ?_ Ag.out _;(with_reducible repeat (first|refine blk_drewN ?_ _|refine blk_drew ?_|refine blk_alloc ?_ _));refine blk_far ?_ Ag.out _;(with_reducible repeat (first|refine blk_drewN ?_ _|refine blk_drew ?_|refine blk_alloc ?_ _));refine blk_far ?_ Ag.out _;(with_reducible repeat (first|refine blk_drewN ?_ _|refine blk_drew ?_|refine blk_alloc ?_ _));exact Aa.out) hb);have n2_:=Aside0.mk (blk_below (g:=Af) (o:=.cells #[.int .i64 Al,.int .i64 Am,.slice As Ai.length Ar,.int .i64 Ap,.int .u32 Aq] 25 (0,0)) (by (with_reducible repeat (first|refine blk_drewN ?_ _|refine blk_drew ?_|refine blk_alloc ?_ _));refine blk_put (cs:=#[.int .i64 Al,.int .i64 Am,.slice As Ai.length Ar,.int .i64 Ap,.int .u32 0]) ?_ 4 _ rfl;(with_reducible repeat (first|refine blk_drewN ?_ _|refine blk_drew ?_|refine blk_alloc ?_ _));refine blk_put (cs:=#[.int .i64 Al,.int .i64 Am,.slice As Ai.length Ar,.int .i64 0,.int .u32 0]) ?_ 3 _ rfl;(with_reducible repeat (first|refine blk_drewN ?_ _|refine blk_drew ?_|refine blk_alloc ?_ _));refine blk_put (cs:=#[.int .i64 Al,.int .i64 Am,.slice none 0 0,.int .i64 0,.int .u32 0]) ?_ 2 _ rfl;(with_reducible repeat (first|refine blk_drewN ?_ _|refine blk_drew ?_|refine blk_alloc ?_ _));refine blk_put (cs:=#[.int .i64 Al,.int .i64 0,.slice none 0 0,.int .i64 0,.int .u32 0]) ?_ 1 _ rfl;(with_reducible repeat (first|refine blk_drewN ?_ _|refine blk_drew ?_|refine blk_alloc ?_ _));refine blk_put (cs:=#[.int .i64 0,.int .i64 0,.slice none 0 0,.int .i64 0,.int .u32 0]) ?_ 0 _ rfl;(with_reducible repeat (first|refine blk_drewN ?_ _|refine blk_drew ?_|refine blk_alloc ?_ _));exact Ad.out) hb);have n3_:=Aside0.mk (below_step qBs21_4 hb);clear Aj;clear Aa;clear Ad;clear HB;have Aj:=n0_;have Aa:=n1_;have Ad:=n2_;have HB:=n3_;clear n0_ n1_ n2_ n3_;(try clear hb);(try clear hb2);(try clear hk);(try clear hi);have hcz25_0 : w24.cell? ⟨Af,0,none⟩ = some (.int .i64 Al):=(blk_cell Ad.out 0).trans rfl;have hcz25_1 : w24.cell? ⟨Af,1,none⟩ = some (.int .i64 Am):=(blk_cell Ad.out 1).trans rfl;have hcz25_2 : w24.cell? ⟨Af,2,none⟩ = some (.slice As Ai.length Ar):=(blk_cell Ad.out 2).trans rfl;have hcz25_3 : w24.cell? ⟨Af,3,none⟩ = some (.int .i64 Ap):=(blk_cell Ad.out 3).trans rfl;have hcz25_4 : w24.cell? ⟨Af,4,none⟩ = some (.int .u32 Aq):=(blk_cell Ad.out 4).trans rfl;have hfz25_0:=blk_frozen Ad.out 0;have hfz25_1:=blk_frozen Ad.out 1;have hfz25_2:=blk_frozen Ad.out 2;have hfz25_3:=blk_frozen Ad.out 3;have hfz25_4:=blk_frozen Ad.out 4)|((with_reducible refine gate_callee (f:=9) rfl ?_);refine goesL_ (some 47) rfl rfl Try.func9 (by kernel_rfl) rfl #[.agg #[.int .i64 Al,.int .i64 Am,.slice As Ai.length Ar,.int .i64 Ap,.int .u32 Aq]] rfl qAs21_5 ?_;(with_reducible refine (kinds_Size.calls k Al Am _ _ Ai Ap Aq t368 t369 _ ?side1 ?side2 A9.out).mono ?_);(case side1=>repeat (first|exact (Kd.S_reads' Aj.out).2.2|(with_reducible refine Kd.C_alloc ?_ _)|(with_reducible refine Kd.C_drewN ?_ _)|(with_reducible refine Kd.C_drew ?_)));(case side2=>exact (Kd.S_reads' Aj.out).2.1);rintro e w26 ⟨rfl,hb⟩;refine ⟨_,rfl,?_⟩;have n0_:=Aside0.mk (Kd.S_below (by (with_reducible repeat (first|apply Kd.S_alloc|apply Kd.S_drewN|apply Kd.S_drew));exact Aj.out) hb);have n1_:=Aside0.mk (blk_below (g:=Ab) (o:=.cells #[.int .i64 a0_0,.int .i64 a0_1,.slice A0_2 l0_2.length c0_2,.int .i64 a0_3,.int .u32 a0_4] 25 (0,0)) (qDs21_ Aa.out) hb);have n2_:=Aside0.mk (blk_below (g:=Af) (o:=.cells #[.int .i64 Al,.int .i64 Am,.slice As Ai.length Ar,.int .i64 Ap,.int .u32 Aq] 25 (0,0)) (qDs21_ Ad.out) hb);have n3_:=Aside0.mk (below_step qBs21_4 hb);clear Aj;clear Aa;clear Ad;clear HB;have Aj:=n0_;have Aa:=n1_;have Ad:=n2_;have HB:=n3_;clear n0_ n1_ n2_ n3_;(try clear hb);(try clear hb2);(try clear hk);(try clear hi)))
  (try simp only [Act.put,List.setIfInBounds_toArray,List.set_cons_zero,List.set_cons_succ])
  go_cut [76] (fun v76 wc=>∃ (kq : Nat) (x76_9 : Bool),v76 = .bool x76_9 ∧ Aside0 (coppicerkeep_KindsStill.j0 kq l1 t352 t353 Ae x76_9 a0_0 a0_1 l0_2 a0_3 a0_4 = some r) ∧ Aside0 (kq ≤ k) ∧ Aside0 (Kd.S (Kd.slice 3 (Kd.int .i64)) 26 wc w.heap.size (fun _=>True) (.slice As Ai.length Ar) Ai) ∧ Aside0 (wc.heap[Ab]? = some (.cells #[.int .i64 a0_0,.int .i64 a0_1,(.slice A0_2 l0_2.length c0_2),.int .i64 a0_3,.int .u32 a0_4] 25 (0,0))) ∧ Aside0 (wc.heap[Af]? = some (.cells #[.int .i64 Al,.int .i64 Am,(.slice As Ai.length Ar),.int .i64 Ap,.int .u32 Aq] 25 (0,0))) ∧ Aside0 (Below w.heap.size w wc))
  case first =>
   have H:=HC10.out
   clear HC10
   by_cases c27 : t364 = 0
   ·rw [if_pos c27] at H
    have c27b0 : (t364 == 0) = true:=beq_iff_eq.mpr c27
    have c27b1 : (t364 != 0) = false:=bne_eq_false_iff_eq.mpr c27
    clear c27
    (first|rw [c27b0]|(simp only [i64_w,i32_w];rw [c27b0])|skip)
    by_cases c28 : t353 = Ao
    ·rw [if_pos c28] at H
     have c28b0 : (t353 == Ao) = true:=beq_iff_eq.mpr c28
     have c28b1 : (t353 != Ao) = false:=bne_eq_false_iff_eq.mpr c28
     clear c28
     by_cases c29 : t367 = t353
     ·rw [if_pos c29] at H
      have c29b0 : (t367 == t353) = true:=beq_iff_eq.mpr c29
      have c29b1 : (t367 != t353) = false:=bne_eq_false_iff_eq.mpr c29
      clear c29
      by_cases c30 : t369 = Ao
      ·rw [if_pos c30] at H
       have c30b0 : (t369 == Ao) = true:=beq_iff_eq.mpr c30
       have c30b1 : (t369 != Ao) = false:=bne_eq_false_iff_eq.mpr c30
       clear c30
       by_cases c31 : (t352 != Ay) = true
       ·rw [if_pos c31] at H
        have c31b0 : (t352 != Ay) = true:=c31
        (try (have c31b1 : decide (t352 = Ay) = false:=by simpa using c31))
        (try (have c31b2 : (t352 == Ay) = false:=by simpa using c31))
        (try (have c31b3 : ¬ (t352 = Ay):=by simpa using c31))
        clear c31
        have H':=Aside0.mk H
        clear H
        go_wp2
        go_meet
        case rel=>exact ⟨_,(true),(by first|rfl|(simp;done)|(simp [*];done)),H',⟨by first|omega|exact Nat.le_refl _⟩,⟨by (with_reducible repeat (first|apply Kd.S_alloc|apply Kd.S_drewN|apply Kd.S_drew));exact Aj.out⟩,⟨by (with_reducible repeat (first|refine blk_drewN ?_ _|refine blk_drew ?_|refine blk_alloc ?_ _));exact Aa.out⟩,⟨by (with_reducible repeat (first|refine blk_drewN ?_ _|refine blk_drew ?_|refine blk_alloc ?_ _));exact Ad.out⟩,⟨by repeat (first|(with_reducible first|exact HB.out|apply below_alloc|apply pw_below_drewN|apply below_drew1|refine below_set ?_ Ah.out|refine below_set ?_ An.out)|exact HB.out)⟩⟩
       ·rw [if_neg c31] at H
        have c31b0 : (t352 != Ay) = false:=by simpa using c31
        (try (have c31b1 : decide (t352 = Ay) = true:=by simpa using c31))
        (try (have c31b2 : (t352 == Ay) = true:=by simpa using c31))
        clear c31
        have H':=Aside0.mk H
        clear H
        go_wp2
        go_meet
        case rel=>exact ⟨_,((Ae != t368)),(by first|rfl|(simp;done)|(simp [*];done)),H',⟨by first|omega|exact Nat.le_refl _⟩,⟨by (with_reducible repeat (first|apply Kd.S_alloc|apply Kd.S_drewN|apply Kd.S_drew));exact Aj.out⟩,⟨by (with_reducible repeat (first|refine blk_drewN ?_ _|refine blk_drew ?_|refine blk_alloc ?_ _));exact Aa.out⟩,⟨by (with_reducible repeat (first|refine blk_drewN ?_ _|refine blk_drew ?_|refine blk_alloc ?_ _));exact Ad.out⟩,⟨by repeat (first|(with_reducible first|exact HB.out|apply below_alloc|apply pw_below_drewN|apply below_drew1|refine below_set ?_ Ah.out|refine below_set ?_ An.out)|exact HB.out)⟩⟩
      ·rw [if_neg c30] at H
       have c30b0 : (t369 == Ao) = false:=beq_eq_false_iff_ne.mpr c30
       have c30b1 : (t369 != Ao) = true:=bne_iff_ne.mpr c30
       have H':=Aside0.mk H
       clear H
       go_wp2
       go_meet
       case rel=>exact ⟨_,(true),(by first|rfl|(simp;done)|(simp [*];done)),H',⟨by first|omega|exact Nat.le_refl _⟩,⟨by (with_reducible repeat (first|apply Kd.S_alloc|apply Kd.S_drewN|apply Kd.S_drew));exact Aj.out⟩,⟨by (with_reducible repeat (first|refine blk_drewN ?_ _|refine blk_drew ?_|refine blk_alloc ?_ _));exact Aa.out⟩,⟨by (with_reducible repeat (first|refine blk_drewN ?_ _|refine blk_drew ?_|refine blk_alloc ?_ _));exact Ad.out⟩,⟨by repeat (first|(with_reducible first|exact HB.out|apply below_alloc|apply pw_below_drewN|apply below_drew1|refine below_set ?_ Ah.out|refine below_set ?_ An.out)|exact HB.out)⟩⟩
     ·rw [if_neg c29] at H
      have c29b0 : (t367 == t353) = false:=beq_eq_false_iff_ne.mpr c29
      have c29b1 : (t367 != t353) = true:=bne_iff_ne.mpr c29
      have H':=Aside0.mk H
      clear H
      go_wp2
      go_meet
      case rel=>exact ⟨_,(true),(by first|rfl|(simp;done)|(simp [*];done)),H',⟨by first|omega|exact Nat.le_refl _⟩,⟨by (with_reducible repeat (first|apply Kd.S_alloc|apply Kd.S_drewN|apply Kd.S_drew));exact Aj.out⟩,⟨by (with_reducible repeat (first|refine blk_drewN ?_ _|refine blk_drew ?_|refine blk_alloc ?_ _));exact Aa.out⟩,⟨by (with_reducible repeat (first|refine blk_drewN ?_ _|refine blk_drew ?_|refine blk_alloc ?_ _));exact Ad.out⟩,⟨by repeat (first|(with_reducible first|exact HB.out|apply below_alloc|apply pw_below_drewN|apply below_drew1|refine below_set ?_ Ah.out|refine below_set ?_ An.out)|exact HB.out)⟩⟩
    ·rw [if_neg c28] at H
     have c28b0 : (t353 == Ao) = false:=beq_eq_false_iff_ne.mpr c28
     have c28b1 : (t353 != Ao) = true:=bne_iff_ne.mpr c28
     have H':=Aside0.mk H
     clear H
     go_wp2
     go_meet
     case rel=>exact ⟨_,(true),(by first|rfl|(simp;done)|(simp [*];done)),H',⟨by first|omega|exact Nat.le_refl _⟩,⟨by (with_reducible repeat (first|apply Kd.S_alloc|apply Kd.S_drewN|apply Kd.S_drew));exact Aj.out⟩,⟨by (with_reducible repeat (first|refine blk_drewN ?_ _|refine blk_drew ?_|refine blk_alloc ?_ _));exact Aa.out⟩,⟨by (with_reducible repeat (first|refine blk_drewN ?_ _|refine blk_drew ?_|refine blk_alloc ?_ _));exact Ad.out⟩,⟨by repeat (first|(with_reducible first|exact HB.out|apply below_alloc|apply pw_below_drewN|apply below_drew1|refine below_set ?_ Ah.out|refine below_set ?_ An.out)|exact HB.out)⟩⟩
   ·rw [if_neg c27] at H
    have c27b0 : (t364 == 0) = false:=beq_eq_false_iff_ne.mpr c27
    have c27b1 : (t364 != 0) = true:=bne_iff_ne.mpr c27
    (first|rw [c27b0]|(simp only [i64_w,i32_w];rw [c27b0])|skip)
    have H':=Aside0.mk H
    clear H
    go_wp2
    go_meet
    case rel=>exact ⟨_,(true),(by first|rfl|(simp;done)|(simp [*];done)),H',⟨by first|omega|exact Nat.le_refl _⟩,⟨by (with_reducible repeat (first|apply Kd.S_alloc|apply Kd.S_drewN|apply Kd.S_drew));exact Aj.out⟩,⟨by (with_reducible repeat (first|refine blk_drewN ?_ _|refine blk_drew ?_|refine blk_alloc ?_ _));exact Aa.out⟩,⟨by (with_reducible repeat (first|refine blk_drewN ?_ _|refine blk_drew ?_|refine blk_alloc ?_ _));exact Ad.out⟩,⟨by repeat (first|(with_reducible first|exact HB.out|apply below_alloc|apply pw_below_drewN|apply below_drew1|refine below_set ?_ Ah.out|refine below_set ?_ An.out)|exact HB.out)⟩⟩
  case rest =>
   clear HC10
   try clear c1
   try clear c2
   try clear p2
   try clear c3
   try clear c4
   try clear c6
   try clear c6b0
   try clear c6b1
   try clear c8
   try clear c9
   try clear c10
   try clear c11
   try clear c21
   try clear c27
   try clear c27b0
   try clear c27b1
   try clear c28
   try clear c28b0
   try clear c28b1
   try clear c29
   try clear c29b0
   try clear c29b1
   try clear c30
   try clear c30b0
   try clear c30b1
   try clear c31
   try clear c31b0
   try clear c31b1
   try clear c31b2
   try clear hcz12_0
   try clear hcz12_1
   try clear hcz12_2
   try clear hcz12_3
   try clear hcz12_4
   try clear hcz14_0
   try clear hcz14_1
   try clear hcz14_2
   try clear hcz14_3
   try clear hcz14_4
   try clear hcz16_0
   try clear hcz16_1
   try clear hcz16_2
   try clear hcz16_3
   try clear hcz16_4
   try clear hcz18_0
   try clear hcz18_1
   try clear hcz18_2
   try clear hcz18_3
   try clear hcz18_4
   try clear hcz22_0
   try clear hcz22_1
   try clear hcz22_2
   try clear hcz22_3
   try clear hcz22_4
   try clear hcz25_0
   try clear hcz25_1
   try clear hcz25_2
   try clear hcz25_3
   try clear hcz25_4
   try clear hfz12_0
   try clear hfz12_1
   try clear hfz12_2
   try clear hfz12_3
   try clear hfz12_4
   try clear hfz14_0
   try clear hfz14_1
   try clear hfz14_2
   try clear hfz14_3
   try clear hfz14_4
   try clear hfz16_0
   try clear hfz16_1
   try clear hfz16_2
   try clear hfz16_3
   try clear hfz16_4
   try clear hfz18_0
   try clear hfz18_1
   try clear hfz18_2
   try clear hfz18_3
   try clear hfz18_4
   try clear hfz22_0
   try clear hfz22_1
   try clear hfz22_2
   try clear hfz22_3
   try clear hfz22_4
   try clear hfz25_0
   try clear hfz25_1
   try clear hfz25_2
   try clear hfz25_3
   try clear hfz25_4
   obtain ⟨kq,x76_9,rfl,HA,HJ9,Ac,Aa,Ad,HB⟩:=hcut
   cases kq with
   | zero=>exact absurd HA.out (by simp [coppicerkeep_KindsStill.j0])
   | succ kj9 =>
    have H:=HA.out
    clear HA
    simp only [coppicerkeep_KindsStill.j0] at H
    by_cases c32 : x76_9 = true
    ·subst c32
     have H1 : (some false) = some r:=by rw [if_pos rfl] at H;exact H
     clear H
     have H:=H1
     clear H1
     obtain rfl:=Option.some.inj H
     go_wp2
     go_ret
     exact ⟨by first|rfl|(simp [errW_none,errW_some] <;> rfl)|(simp [*,errW_none,errW_some] <;> rfl),by repeat (first|(with_reducible first|exact HB.out|apply below_alloc|apply pw_below_drewN|apply below_drew1|refine below_set ?_ Ah.out|refine below_set ?_ An.out)|exact HB.out)⟩
    ·replace c32:=Bool.eq_false_iff.mpr c32
     subst c32
     have H1 : (if t353 = 0 then (if Ae < 1 then (coppicerkeep_KindsStill.j1 kj9 l1 Ae true a0_0 a0_1 l0_2 a0_3 a0_4) else (if t352 = true then ((coppicerkeep_good.f kj9 a0_0 a0_1 l0_2 a0_3 a0_4 l1).bind fun t370=>(if t370 = true then (if (l1.length : Int) = 0 then (coppicerkeep_KindsStill.j1 kj9 l1 Ae true a0_0 a0_1 l0_2 a0_3 a0_4) else (coppicerkeep_KindsStill.j1 kj9 l1 Ae (decide ((wrap64 ((l1.length : Int) * (wrap64 (Ae + 1)))) > 12)) a0_0 a0_1 l0_2 a0_3 a0_4)) else (coppicerkeep_KindsStill.j1 kj9 l1 Ae true a0_0 a0_1 l0_2 a0_3 a0_4))) else (coppicerkeep_KindsStill.j1 kj9 l1 Ae true a0_0 a0_1 l0_2 a0_3 a0_4))) else (if t353 = 1 then (some (Ae == 0)) else (some false))) = some r:=by rw [if_neg (show ¬ (false = true) by decide)] at H;exact H
     clear H
     have H:=H1
     clear H1
     by_cases c33 : t353 = 0
     ·rw [if_pos c33] at H
      have c33b0 : (t353 == 0) = true:=beq_iff_eq.mpr c33
      have c33b1 : (t353 != 0) = false:=bne_eq_false_iff_eq.mpr c33
      clear c33
      have HC34:=Aside0.mk H
      clear H
      go_upto_region 12 with (fail)
      go_cut [109] (fun v109 wc=>∃ (kq : Nat) (Ax : Bool),v109 = .bool Ax ∧ Aside0 (coppicerkeep_KindsStill.j1 kq l1 Ae Ax a0_0 a0_1 l0_2 a0_3 a0_4 = some r) ∧ Aside0 (kq ≤ kj9) ∧ Aside0 (Kd.S (Kd.slice 3 (Kd.int .i64)) 26 wc w.heap.size (fun _=>True) (.slice As Ai.length Ar) Ai) ∧ Aside0 (wc.heap[Ab]? = some (.cells #[.int .i64 a0_0,.int .i64 a0_1,(.slice A0_2 l0_2.length c0_2),.int .i64 a0_3,.int .u32 a0_4] 25 (0,0))) ∧ Aside0 (wc.heap[Af]? = some (.cells #[.int .i64 Al,.int .i64 Am,(.slice As Ai.length Ar),.int .i64 Ap,.int .u32 Aq] 25 (0,0))) ∧ Aside0 (Below w.heap.size w wc))
      case first =>
       have H:=HC34.out
       clear HC34
       by_cases c35 : Ae < 1
       ·rw [if_pos c35] at H
        have c35b0 : decide (Ae < 1) = true:=decide_eq_true c35
        clear c35
        (first|rw [c35b0]|(simp only [i64_w,i32_w];rw [c35b0])|skip)
        have H':=Aside0.mk H
        clear H
        go_wp2
        go_meet
        case rel=>exact ⟨_,(true),(by first|rfl|(simp;done)|(simp [*];done)),H',⟨by have:=HJ9.out;first|omega|exact Nat.le_refl _⟩,⟨by (with_reducible repeat (first|apply Kd.S_alloc|apply Kd.S_drewN|apply Kd.S_drew));exact Ac.out⟩,⟨by (with_reducible repeat (first|refine blk_drewN ?_ _|refine blk_drew ?_|refine blk_alloc ?_ _));exact Aa.out⟩,⟨by (with_reducible repeat (first|refine blk_drewN ?_ _|refine blk_drew ?_|refine blk_alloc ?_ _));exact Ad.out⟩,⟨by repeat (first|(with_reducible first|exact HB.out|apply below_alloc|apply pw_below_drewN|apply below_drew1|refine below_set ?_ Ah.out|refine below_set ?_ An.out)|exact HB.out)⟩⟩
       ·rw [if_neg c35] at H
        have c35b0 : decide (Ae < 1) = false:=decide_eq_false c35
        clear c35
        (first|rw [c35b0]|(simp only [i64_w,i32_w];rw [c35b0])|skip)
        by_cases c36 : t352 = true
        ·subst c36
         have H1 : ((coppicerkeep_good.f kj9 a0_0 a0_1 l0_2 a0_3 a0_4 l1).bind fun t370=>(if t370 = true then (if (l1.length : Int) = 0 then (coppicerkeep_KindsStill.j1 kj9 l1 Ae true a0_0 a0_1 l0_2 a0_3 a0_4) else (coppicerkeep_KindsStill.j1 kj9 l1 Ae (decide ((wrap64 ((l1.length : Int) * (wrap64 (Ae + 1)))) > 12)) a0_0 a0_1 l0_2 a0_3 a0_4)) else (coppicerkeep_KindsStill.j1 kj9 l1 Ae true a0_0 a0_1 l0_2 a0_3 a0_4))) = some r:=by rw [if_pos rfl] at H;exact H
         clear H
         have H:=H1
         clear H1
         replace H:=Option.bind_eq_some_iff.mp H
         obtain ⟨t370,A370,H⟩:=H
         replace H : (if t370 = true then (if (l1.length : Int) = 0 then (coppicerkeep_KindsStill.j1 kj9 l1 Ae true a0_0 a0_1 l0_2 a0_3 a0_4) else (coppicerkeep_KindsStill.j1 kj9 l1 Ae (decide ((wrap64 ((l1.length : Int) * (wrap64 (Ae + 1)))) > 12)) a0_0 a0_1 l0_2 a0_3 a0_4)) else (coppicerkeep_KindsStill.j1 kj9 l1 Ae true a0_0 a0_1 l0_2 a0_3 a0_4)) = some r:=H
         have A37:=Aside0.mk A370
         clear A370
         by_cases c38 : t370 = true
         ·subst c38
          have H1 : (if (l1.length : Int) = 0 then (coppicerkeep_KindsStill.j1 kj9 l1 Ae true a0_0 a0_1 l0_2 a0_3 a0_4) else (coppicerkeep_KindsStill.j1 kj9 l1 Ae (decide ((wrap64 ((l1.length : Int) * (wrap64 (Ae + 1)))) > 12)) a0_0 a0_1 l0_2 a0_3 a0_4)) = some r:=by rw [if_pos rfl] at H;exact H
          clear H
          have H:=H1
          clear H1
          by_cases c39 : (l1.length : Int) = 0
          ·rw [if_pos c39] at H
           have c39b0 : ((l1.length : Int) == 0) = true:=beq_iff_eq.mpr c39
           have c39b1 : ((l1.length : Int) != 0) = false:=bne_eq_false_iff_eq.mpr c39
           clear c39
           have H':=Aside0.mk H
           clear H
           have hnb40:=Ag.out
           have hnc40:=Au.out
           have hcz41_0 : wc.cell? ⟨Ab,0,none⟩ = some (.int .i64 a0_0):=(blk_cell Aa.out 0).trans rfl
           have hcz41_1 : wc.cell? ⟨Ab,1,none⟩ = some (.int .i64 a0_1):=(blk_cell Aa.out 1).trans rfl
           have hcz41_2 : wc.cell? ⟨Ab,2,none⟩ = some (.slice A0_2 l0_2.length c0_2):=(blk_cell Aa.out 2).trans rfl
           have hcz41_3 : wc.cell? ⟨Ab,3,none⟩ = some (.int .i64 a0_3):=(blk_cell Aa.out 3).trans rfl
           have hcz41_4 : wc.cell? ⟨Ab,4,none⟩ = some (.int .u32 a0_4):=(blk_cell Aa.out 4).trans rfl
           have hfz41_0:=blk_frozen Aa.out 0
           have hfz41_1:=blk_frozen Aa.out 1
           have hfz41_2:=blk_frozen Aa.out 2
           have hfz41_3:=blk_frozen Aa.out 3
           have hfz41_4:=blk_frozen Aa.out 4
           go_wp2_with (first|(go_at_call 6;(with_reducible refine (coppicerkeep_good.calls kj9 a0_0 a0_1 _ _ l0_2 a0_3 a0_4 _ _ l1 true _ ?side1 ?side2 ?side3 ?side4 A37.out).mono ?_);(case side1=>repeat (first|exact (Kd.C_below HR0_2.out HB.out)|(with_reducible refine Kd.C_alloc ?_ _)|(with_reducible refine Kd.C_drewN ?_ _)|(with_reducible refine Kd.C_drew ?_)));(case side2=>exact HC0_2.out);(case side3=>repeat (first|exact (Kd.C_below HR1.out HB.out)|(with_reducible refine Kd.C_alloc ?_ _)|(with_reducible refine Kd.C_drewN ?_ _)|(with_reducible refine Kd.C_drew ?_)));(case side4=>exact HC1.out);rintro e w42 ⟨rfl,hb⟩;have n0_:=Aside0.mk (Kd.S_below (by (with_reducible repeat (first|apply Kd.S_alloc|apply Kd.S_drewN|apply Kd.S_drew));exact Ac.out) hb);have n1_:=Aside0.mk (blk_below (g:=Ab) (o:=.cells #[.int .i64 a0_0,.int .i64 a0_1,.slice A0_2 l0_2.length c0_2,.int .i64 a0_3,.int .u32 a0_4] 25 (0,0)) (qDs21_ Aa.out) hb);have n2_:=Aside0.mk (blk_below (g:=Af) (o:=.cells #[.int .i64 Al,.int .i64 Am,.slice As Ai.length Ar,.int .i64 Ap,.int .u32 Aq] 25 (0,0)) (qDs21_ Ad.out) hb);have n3_:=Aside0.mk (below_step qBs21_4 hb);clear Ac;clear Aa;clear Ad;clear HB;have Ac:=n0_;have Aa:=n1_;have Ad:=n2_;have HB:=n3_;clear n0_ n1_ n2_ n3_;(try clear hb);(try clear hb2);(try clear hk);(try clear hi)))
           go_meet
           case rel=>exact ⟨_,(true),(by first|rfl|(simp;done)|(simp [*];done)),H',⟨by have:=HJ9.out;first|omega|exact Nat.le_refl _⟩,⟨by (with_reducible repeat (first|apply Kd.S_alloc|apply Kd.S_drewN|apply Kd.S_drew));exact Ac.out⟩,⟨by (with_reducible repeat (first|refine blk_drewN ?_ _|refine blk_drew ?_|refine blk_alloc ?_ _));exact Aa.out⟩,⟨by (with_reducible repeat (first|refine blk_drewN ?_ _|refine blk_drew ?_|refine blk_alloc ?_ _));exact Ad.out⟩,⟨by repeat (first|(with_reducible first|exact HB.out|apply below_alloc|apply pw_below_drewN|apply below_drew1|refine below_set ?_ Ah.out|refine below_set ?_ An.out)|exact HB.out)⟩⟩
          ·rw [if_neg c39] at H
           have c39b0 : ((l1.length : Int) == 0) = false:=beq_eq_false_iff_ne.mpr c39
           have c39b1 : ((l1.length : Int) != 0) = true:=bne_iff_ne.mpr c39
           have c39b2 : ¬ (l1 = []):=fun h_=>c39 (by rw [h_];rfl)
           have H':=Aside0.mk H
           clear H
           have hnb43:=Ag.out
           have hnc43:=Au.out
           have hcz44_0 : wc.cell? ⟨Ab,0,none⟩ = some (.int .i64 a0_0):=(blk_cell Aa.out 0).trans rfl
           have hcz44_1 : wc.cell? ⟨Ab,1,none⟩ = some (.int .i64 a0_1):=(blk_cell Aa.out 1).trans rfl
           have hcz44_2 : wc.cell? ⟨Ab,2,none⟩ = some (.slice A0_2 l0_2.length c0_2):=(blk_cell Aa.out 2).trans rfl
           have hcz44_3 : wc.cell? ⟨Ab,3,none⟩ = some (.int .i64 a0_3):=(blk_cell Aa.out 3).trans rfl
           have hcz44_4 : wc.cell? ⟨Ab,4,none⟩ = some (.int .u32 a0_4):=(blk_cell Aa.out 4).trans rfl
           have hfz44_0:=blk_frozen Aa.out 0
           have hfz44_1:=blk_frozen Aa.out 1
           have hfz44_2:=blk_frozen Aa.out 2
           have hfz44_3:=blk_frozen Aa.out 3
           have hfz44_4:=blk_frozen Aa.out 4
           go_wp2_with (first|(go_at_call 6;(with_reducible refine (coppicerkeep_good.calls kj9 a0_0 a0_1 _ _ l0_2 a0_3 a0_4 _ _ l1 true _ ?side1 ?side2 ?side3 ?side4 A37.out).mono ?_);(case side1=>repeat (first|exact (Kd.C_below HR0_2.out HB.out)|(with_reducible refine Kd.C_alloc ?_ _)|(with_reducible refine Kd.C_drewN ?_ _)|(with_reducible refine Kd.C_drew ?_)));(case side2=>exact HC0_2.out);(case side3=>repeat (first|exact (Kd.C_below HR1.out HB.out)|(with_reducible refine Kd.C_alloc ?_ _)|(with_reducible refine Kd.C_drewN ?_ _)|(with_reducible refine Kd.C_drew ?_)));(case side4=>exact HC1.out);rintro e w45 ⟨rfl,hb⟩;have n0_:=Aside0.mk (Kd.S_below (by (with_reducible repeat (first|apply Kd.S_alloc|apply Kd.S_drewN|apply Kd.S_drew));exact Ac.out) hb);have n1_:=Aside0.mk (blk_below (g:=Ab) (o:=.cells #[.int .i64 a0_0,.int .i64 a0_1,.slice A0_2 l0_2.length c0_2,.int .i64 a0_3,.int .u32 a0_4] 25 (0,0)) (qDs21_ Aa.out) hb);have n2_:=Aside0.mk (blk_below (g:=Af) (o:=.cells #[.int .i64 Al,.int .i64 Am,.slice As Ai.length Ar,.int .i64 Ap,.int .u32 Aq] 25 (0,0)) (qDs21_ Ad.out) hb);have n3_:=Aside0.mk (below_step qBs21_4 hb);clear Ac;clear Aa;clear Ad;clear HB;have Ac:=n0_;have Aa:=n1_;have Ad:=n2_;have HB:=n3_;clear n0_ n1_ n2_ n3_;(try clear hb);(try clear hb2);(try clear hk);(try clear hi)))
           go_meet
           case rel=>exact ⟨_,(decide ((wrap64 ((l1.length : Int) * (wrap64 (Ae + 1)))) > 12)),(by first|rfl|(simp;done)|(simp [*];done)),H',⟨by have:=HJ9.out;first|omega|exact Nat.le_refl _⟩,⟨by (with_reducible repeat (first|apply Kd.S_alloc|apply Kd.S_drewN|apply Kd.S_drew));exact Ac.out⟩,⟨by (with_reducible repeat (first|refine blk_drewN ?_ _|refine blk_drew ?_|refine blk_alloc ?_ _));exact Aa.out⟩,⟨by (with_reducible repeat (first|refine blk_drewN ?_ _|refine blk_drew ?_|refine blk_alloc ?_ _));exact Ad.out⟩,⟨by repeat (first|(with_reducible first|exact HB.out|apply below_alloc|apply pw_below_drewN|apply below_drew1|refine below_set ?_ Ah.out|refine below_set ?_ An.out)|exact HB.out)⟩⟩
         ·replace c38:=Bool.eq_false_iff.mpr c38
          subst c38
          have H1 : (coppicerkeep_KindsStill.j1 kj9 l1 Ae true a0_0 a0_1 l0_2 a0_3 a0_4) = some r:=by rw [if_neg (show ¬ (false = true) by decide)] at H;exact H
          clear H
          have H:=H1
          clear H1
          have H':=Aside0.mk H
          clear H
          have hnb46:=Ag.out
          have hnc46:=Au.out
          have hcz47_0 : wc.cell? ⟨Ab,0,none⟩ = some (.int .i64 a0_0):=(blk_cell Aa.out 0).trans rfl
          have hcz47_1 : wc.cell? ⟨Ab,1,none⟩ = some (.int .i64 a0_1):=(blk_cell Aa.out 1).trans rfl
          have hcz47_2 : wc.cell? ⟨Ab,2,none⟩ = some (.slice A0_2 l0_2.length c0_2):=(blk_cell Aa.out 2).trans rfl
          have hcz47_3 : wc.cell? ⟨Ab,3,none⟩ = some (.int .i64 a0_3):=(blk_cell Aa.out 3).trans rfl
          have hcz47_4 : wc.cell? ⟨Ab,4,none⟩ = some (.int .u32 a0_4):=(blk_cell Aa.out 4).trans rfl
          have hfz47_0:=blk_frozen Aa.out 0
          have hfz47_1:=blk_frozen Aa.out 1
          have hfz47_2:=blk_frozen Aa.out 2
          have hfz47_3:=blk_frozen Aa.out 3
          have hfz47_4:=blk_frozen Aa.out 4
          go_wp2_with (first|(go_at_call 6;(with_reducible refine (coppicerkeep_good.calls kj9 a0_0 a0_1 _ _ l0_2 a0_3 a0_4 _ _ l1 false _ ?side1 ?side2 ?side3 ?side4 A37.out).mono ?_);(case side1=>repeat (first|exact (Kd.C_below HR0_2.out HB.out)|(with_reducible refine Kd.C_alloc ?_ _)|(with_reducible refine Kd.C_drewN ?_ _)|(with_reducible refine Kd.C_drew ?_)));(case side2=>exact HC0_2.out);(case side3=>repeat (first|exact (Kd.C_below HR1.out HB.out)|(with_reducible refine Kd.C_alloc ?_ _)|(with_reducible refine Kd.C_drewN ?_ _)|(with_reducible refine Kd.C_drew ?_)));(case side4=>exact HC1.out);rintro e w48 ⟨rfl,hb⟩;have n0_:=Aside0.mk (Kd.S_below (by (with_reducible repeat (first|apply Kd.S_alloc|apply Kd.S_drewN|apply Kd.S_drew));exact Ac.out) hb);have n1_:=Aside0.mk (blk_below (g:=Ab) (o:=.cells #[.int .i64 a0_0,.int .i64 a0_1,.slice A0_2 l0_2.length c0_2,.int .i64 a0_3,.int .u32 a0_4] 25 (0,0)) (qDs21_ Aa.out) hb);have n2_:=Aside0.mk (blk_below (g:=Af) (o:=.cells #[.int .i64 Al,.int .i64 Am,.slice As Ai.length Ar,.int .i64 Ap,.int .u32 Aq] 25 (0,0)) (qDs21_ Ad.out) hb);have n3_:=Aside0.mk (below_step qBs21_4 hb);clear Ac;clear Aa;clear Ad;clear HB;have Ac:=n0_;have Aa:=n1_;have Ad:=n2_;have HB:=n3_;clear n0_ n1_ n2_ n3_;(try clear hb);(try clear hb2);(try clear hk);(try clear hi)))
          go_meet
          case rel=>exact ⟨_,(true),(by first|rfl|(simp;done)|(simp [*];done)),H',⟨by have:=HJ9.out;first|omega|exact Nat.le_refl _⟩,⟨by (with_reducible repeat (first|apply Kd.S_alloc|apply Kd.S_drewN|apply Kd.S_drew));exact Ac.out⟩,⟨by (with_reducible repeat (first|refine blk_drewN ?_ _|refine blk_drew ?_|refine blk_alloc ?_ _));exact Aa.out⟩,⟨by (with_reducible repeat (first|refine blk_drewN ?_ _|refine blk_drew ?_|refine blk_alloc ?_ _));exact Ad.out⟩,⟨by repeat (first|(with_reducible first|exact HB.out|apply below_alloc|apply pw_below_drewN|apply below_drew1|refine below_set ?_ Ah.out|refine below_set ?_ An.out)|exact HB.out)⟩⟩
        ·replace c36:=Bool.eq_false_iff.mpr c36
         subst c36
         have H1 : (coppicerkeep_KindsStill.j1 kj9 l1 Ae true a0_0 a0_1 l0_2 a0_3 a0_4) = some r:=by rw [if_neg (show ¬ (false = true) by decide)] at H;exact H
         clear H
         have H:=H1
         clear H1
         have H':=Aside0.mk H
         clear H
         go_wp2
         go_meet
         case rel=>exact ⟨_,(true),(by first|rfl|(simp;done)|(simp [*];done)),H',⟨by have:=HJ9.out;first|omega|exact Nat.le_refl _⟩,⟨by (with_reducible repeat (first|apply Kd.S_alloc|apply Kd.S_drewN|apply Kd.S_drew));exact Ac.out⟩,⟨by (with_reducible repeat (first|refine blk_drewN ?_ _|refine blk_drew ?_|refine blk_alloc ?_ _));exact Aa.out⟩,⟨by (with_reducible repeat (first|refine blk_drewN ?_ _|refine blk_drew ?_|refine blk_alloc ?_ _));exact Ad.out⟩,⟨by repeat (first|(with_reducible first|exact HB.out|apply below_alloc|apply pw_below_drewN|apply below_drew1|refine below_set ?_ Ah.out|refine below_set ?_ An.out)|exact HB.out)⟩⟩
      case rest =>
       clear HC34
       try clear c1
       try clear c2
       try clear p2
       try clear c3
       try clear c4
       try clear c6
       try clear c6b0
       try clear c6b1
       try clear p6
       try clear c8
       try clear c9
       try clear c10
       try clear c11
       try clear c21
       try clear c27
       try clear c27b0
       try clear c27b1
       try clear c28
       try clear c28b0
       try clear c28b1
       try clear c29
       try clear c29b0
       try clear c29b1
       try clear c30
       try clear c30b0
       try clear c30b1
       try clear c31
       try clear c31b0
       try clear c31b1
       try clear c31b2
       try clear c32
       try clear c33
       try clear c33b0
       try clear c33b1
       try clear c35
       try clear c35b0
       try clear c36
       try clear c38
       try clear c39
       try clear c39b0
       try clear c39b1
       try clear c39b2
       try clear c40
       try clear c43
       try clear c46
       try clear hcz12_0
       try clear hcz12_1
       try clear hcz12_2
       try clear hcz12_3
       try clear hcz12_4
       try clear hcz14_0
       try clear hcz14_1
       try clear hcz14_2
       try clear hcz14_3
       try clear hcz14_4
       try clear hcz16_0
       try clear hcz16_1
       try clear hcz16_2
       try clear hcz16_3
       try clear hcz16_4
       try clear hcz18_0
       try clear hcz18_1
       try clear hcz18_2
       try clear hcz18_3
       try clear hcz18_4
       try clear hcz22_0
       try clear hcz22_1
       try clear hcz22_2
       try clear hcz22_3
       try clear hcz22_4
       try clear hcz25_0
       try clear hcz25_1
       try clear hcz25_2
       try clear hcz25_3
       try clear hcz25_4
       try clear hcz41_0
       try clear hcz41_1
       try clear hcz41_2
       try clear hcz41_3
       try clear hcz41_4
       try clear hcz44_0
       try clear hcz44_1
       try clear hcz44_2
       try clear hcz44_3
       try clear hcz44_4
       try clear hcz47_0
       try clear hcz47_1
       try clear hcz47_2
       try clear hcz47_3
       try clear hcz47_4
       try clear hfz12_0
       try clear hfz12_1
       try clear hfz12_2
       try clear hfz12_3
       try clear hfz12_4
       try clear hfz14_0
       try clear hfz14_1
       try clear hfz14_2
       try clear hfz14_3
       try clear hfz14_4
       try clear hfz16_0
       try clear hfz16_1
       try clear hfz16_2
       try clear hfz16_3
       try clear hfz16_4
       try clear hfz18_0
       try clear hfz18_1
       try clear hfz18_2
       try clear hfz18_3
       try clear hfz18_4
       try clear hfz22_0
       try clear hfz22_1
       try clear hfz22_2
       try clear hfz22_3
       try clear hfz22_4
       try clear hfz25_0
       try clear hfz25_1
       try clear hfz25_2
       try clear hfz25_3
       try clear hfz25_4
       try clear hfz41_0
       try clear hfz41_1
       try clear hfz41_2
       try clear hfz41_3
       try clear hfz41_4
       try clear hfz44_0
       try clear hfz44_1
       try clear hfz44_2
       try clear hfz44_3
       try clear hfz44_4
       try clear hfz47_0
       try clear hfz47_1
       try clear hfz47_2
       try clear hfz47_3
       try clear hfz47_4
       try clear p2
       obtain ⟨kq,Ax,rfl,HA,HJ33,Ac,Aa,Ad,HB⟩:=hcut
       cases kq with
       | zero=>exact absurd HA.out (by simp [coppicerkeep_KindsStill.j1])
       | succ kj33 =>
        have H:=HA.out
        clear HA
        simp only [coppicerkeep_KindsStill.j1] at H
        by_cases c49 : Ax = true
        ·subst c49
         have H1 : (some (decide (Ae ≥ 1))) = some r:=by rw [if_pos rfl] at H;exact H
         clear H
         have H:=H1
         clear H1
         obtain rfl:=Option.some.inj H
         go_wp2
         go_ret
         exact ⟨by first|rfl|(simp [errW_none,errW_some] <;> rfl)|(simp [*,errW_none,errW_some] <;> rfl),by repeat (first|(with_reducible first|exact HB.out|apply below_alloc|apply pw_below_drewN|apply below_drew1|refine below_set ?_ Ah.out|refine below_set ?_ An.out)|exact HB.out)⟩
        ·replace c49:=Bool.eq_false_iff.mpr c49
         subst c49
         have H1 : ((coppicerref_Again.f kj33 l1 Ae).bind fun Aw=>((coppicerref_Again.f kj33 l1 (wrap64 (Ae + 1))).bind fun Av=>((kinds_Same.f kj33 a0_0 a0_1 l0_2 a0_3 a0_4 Aw Av).bind fun bt377=>(if bt377.2 = 0 then (some bt377.1) else (some false))))) = some r:=by rw [if_neg (show ¬ (false = true) by decide)] at H;exact H
         clear H
         have H:=H1
         clear H1
         replace H:=Option.bind_eq_some_iff.mp H
         obtain ⟨Aw,A500,H⟩:=H
         replace H : ((coppicerref_Again.f kj33 l1 (wrap64 (Ae + 1))).bind fun Av=>((kinds_Same.f kj33 a0_0 a0_1 l0_2 a0_3 a0_4 Aw Av).bind fun bt377=>(if bt377.2 = 0 then (some bt377.1) else (some false)))) = some r:=H
         have A50:=Aside0.mk A500
         clear A500
         replace H:=Option.bind_eq_some_iff.mp H
         obtain ⟨Av,A510,H⟩:=H
         replace H : ((kinds_Same.f kj33 a0_0 a0_1 l0_2 a0_3 a0_4 Aw Av).bind fun bt377=>(if bt377.2 = 0 then (some bt377.1) else (some false))) = some r:=H
         have A51:=Aside0.mk A510
         clear A510
         replace H:=Option.bind_eq_some_iff.mp H
         obtain ⟨⟨t377,t378⟩,A520,H⟩:=H
         replace H : (if t378 = 0 then (some t377) else (some false)) = some r:=H
         have A52:=Aside0.mk A520
         clear A520
         by_cases c53 : t378 = 0
         ·rw [if_pos c53] at H
          have c53b0 : (t378 == 0) = true:=beq_iff_eq.mpr c53
          have c53b1 : (t378 != 0) = false:=bne_eq_false_iff_eq.mpr c53
          clear c53
          obtain rfl:=Option.some.inj H
          try go_wp2
          have n0_:=Aside0.mk (Kd.S_drew Ac.out)
          have n1_:=Aside0.mk (blk_drew Aa.out)
          have n2_:=Aside0.mk (blk_drew Ad.out)
          have n3_:=Aside0.mk (below_drew1 HB.out)
          clear Ac
          clear Aa
          clear Ad
          clear HB
          have Ac:=n0_
          have Aa:=n1_
          have Ad:=n2_
          have HB:=n3_
          clear n0_ n1_ n2_ n3_
          refine start_ (n:=14) (S:=fun w'=>w'.cell? ⟨Ab,0,none⟩ = some (.int .i64 a0_0) ∧ w'.cell? ⟨Ab,1,none⟩ = some (.int .i64 a0_1) ∧ w'.cell? ⟨Ab,2,none⟩ = some (.slice A0_2 l0_2.length c0_2) ∧ w'.cell? ⟨Ab,3,none⟩ = some (.int .i64 a0_3) ∧ w'.cell? ⟨Ab,4,none⟩ = some (.int .u32 a0_4)) (ds:=[]) #[false,false,false,false,false,false,false,false,false,false,false,false,false,false] (by kernel_rfl) rfl rfl ⟨(blk_cell Aa.out 0).trans rfl,(blk_cell Aa.out 1).trans rfl,(blk_cell Aa.out 2).trans rfl,(blk_cell Aa.out 3).trans rfl,(blk_cell Aa.out 4).trans rfl⟩ (fun hHeld=>?_);refine with_tabW coppicerkeep_KindsStill.tab14 coppicerkeep_KindsStill.bits14 (fun HT_ HW_=>?_)
          generalize wc.drew = w54 at Ac Aa Ad HB hHeld ⊢
          refine pure_ (i:=1) (N:=some 114) (v:=?_) (a':=?_) #[false,true,false,false,false,false,false,false,false,false,false,false,false,false] rfl rfl (any_of HT_.out (by kernel_rfl)) (fun _ _ _ h=>h) (Or.inl ⟨by rfl,?_⟩) ?_ ?_
          rotate_left
          ·intro w'
           go_simp
           with_reducible rfl
          rotate_left
          ·simp only [Act.put,List.setIfInBounds_toArray,List.set_cons_zero,List.set_cons_succ,i64_w,i32_w]
           rfl
          refine pure_ (i:=2) (N:=some 115) (v:=?_) (a':=?_) #[false,true,true,false,false,false,false,false,false,false,false,false,false,false] rfl rfl (any_of HT_.out (by kernel_rfl)) (fun _ _ _ h=>h) (Or.inl ⟨by rfl,?_⟩) ?_ ?_
          rotate_left
          ·intro w'
           go_simp
           with_reducible rfl
          rotate_left
          ·simp only [Act.put,List.setIfInBounds_toArray,List.set_cons_zero,List.set_cons_succ,i64_w,i32_w]
           rfl
          refine pure_ (i:=4) (N:=some 117) (v:=?_) (a':=?_) #[false,true,true,false,true,false,false,false,false,false,false,false,false,false] rfl rfl (any_of HT_.out (by kernel_rfl)) (fun _ _ _ h=>h) (Or.inl ⟨by rfl,?_⟩) ?_ ?_
          rotate_left
          ·intro w'
           go_simp
           with_reducible rfl
          rotate_left
          ·simp only [Act.put,List.setIfInBounds_toArray,List.set_cons_zero,List.set_cons_succ,i64_w,i32_w]
           rfl
          refine pure_ (i:=5) (N:=some 118) (v:=?_) (a':=?_) #[false,true,true,false,true,true,false,false,false,false,false,false,false,false] rfl rfl (any_of HT_.out (by kernel_rfl)) (fun _ _ _ h=>h) (Or.inl ⟨by rfl,?_⟩) ?_ ?_
          rotate_left
          ·intro w'
           go_simp
           with_reducible rfl
          rotate_left
          ·simp only [Act.put,List.setIfInBounds_toArray,List.set_cons_zero,List.set_cons_succ,i64_w,i32_w]
           rfl
          refine pure_ (i:=6) (N:=some 119) (v:=?_) (a':=?_) #[false,true,true,false,true,true,true,false,false,false,false,false,false,false] rfl rfl (any_of HT_.out (by kernel_rfl)) (fun _ _ _ h=>h) (Or.inl ⟨by rfl,?_⟩) ?_ ?_
          rotate_left
          ·intro w'
           go_simp
           with_reducible rfl
          rotate_left
          ·simp only [Act.put,List.setIfInBounds_toArray,List.set_cons_zero,List.set_cons_succ,i64_w,i32_w]
           rfl
          refine take_ (i:=0) (N:=some 113) (v:=?_) (a':=?_) #[true,true,true,false,true,true,true,false,false,false,false,false,false,false] rfl rfl (take_ofW HT_.out HW_.out (by kernel_rfl)) (fun _ _ _ h=>h) (Or.inl ⟨by rfl,?_⟩) hHeld ?_ ?_
          rotate_left
          ·rintro w' ⟨s0,s1,s2,s3,s4⟩
           go_simp
           with_reducible rfl
          rotate_left
          ·simp only [Act.put,List.setIfInBounds_toArray,List.set_cons_zero,List.set_cons_succ,i64_w,i32_w]
           rfl
          refine one_ (i:=3) (N:=some 116) #[true,true,true,true,true,true,true,false,false,false,false,false,false,false] rfl rfl (one_of HT_.out (by kernel_rfl)) (by decide) (fun K hK=>?_)
          refine goes_ Try.func12 (by kernel_rfl) rfl #[.slice A1 l1.length c1,.int .i64 Ae] (by rfl) rfl rfl qAs21_5 ?_
          with_reducible refine (coppicerref_Again.calls kj33 _ _ l1 Ae Aw _ ?side1 ?side2 A50.out).mono ?_
          (case side1=>repeat (first|exact (Kd.C_below HR1.out HB.out)|(with_reducible refine Kd.C_alloc ?_ _)|(with_reducible refine Kd.C_drewN ?_ _)|(with_reducible refine Kd.C_drew ?_)))
          (case side2=>exact HC1.out)
          rintro e w55 ⟨v372,rfl,ho0,hb⟩
          refine ⟨_,rfl,?_⟩
          have n0_:=Aside0.mk (Kd.S_elder' (by (with_reducible repeat (first|apply Kd.S_alloc|apply Kd.S_drewN|apply Kd.S_drew));exact Ac.out) (Kd.R_base ho0) hb)
          have n1_:=Aside0.mk (Kd.R_lower ho0 (below_size qBs21_4))
          have n2_:=Aside0.mk (blk_below (g:=Ab) (o:=.cells #[.int .i64 a0_0,.int .i64 a0_1,.slice A0_2 l0_2.length c0_2,.int .i64 a0_3,.int .u32 a0_4] 25 (0,0)) (qDs21_ Aa.out) hb)
          have n3_:=Aside0.mk (blk_below (g:=Af) (o:=.cells #[.int .i64 Al,.int .i64 Am,.slice As Ai.length Ar,.int .i64 Ap,.int .u32 Aq] 25 (0,0)) (qDs21_ Ad.out) hb)
          have n4_:=Aside0.mk (below_step qBs21_4 hb)
          clear Ac
          clear Aa
          clear Ad
          clear HB
          have Ac:=n0_
          have Ak:=n1_
          have Aa:=n2_
          have Ad:=n3_
          have HB:=n4_
          clear n0_ n1_ n2_ n3_ n4_
          (try clear hb)
          (try clear hb2)
          (try clear hk)
          (try clear hi)
          (try clear ho0)
          refine hK.out _ _ ⟨(blk_cell Aa.out 0).trans rfl,(blk_cell Aa.out 1).trans rfl,(blk_cell Aa.out 2).trans rfl,(blk_cell Aa.out 3).trans rfl,(blk_cell Aa.out 4).trans rfl⟩ (fun hHeld=>?_)
          clear hK K
          refine norm_ (a':=?_) ?_ ?_
          rotate_left
          ·show Act.put _ (some 116) _ = _
           simp only [Act.put,List.setIfInBounds_toArray,List.set_cons_zero,List.set_cons_succ,i64_w,i32_w]
           rfl
          refine one_ (i:=7) (N:=some 120) #[true,true,true,true,true,true,true,true,false,false,false,false,false,false] rfl rfl (one_of HT_.out (by kernel_rfl)) (by decide) (fun K hK=>?_)
          refine goes_ Try.func12 (by kernel_rfl) rfl #[.slice A1 l1.length c1,.int .i64 (wrap64 (Ae + 1))] (by rfl) rfl rfl qAs21_5 ?_
          with_reducible refine (coppicerref_Again.calls kj33 _ _ l1 (wrap64 (Ae + 1)) Av _ ?side1 ?side2 A51.out).mono ?_
          (case side1=>repeat (first|exact (Kd.C_below HR1.out HB.out)|(with_reducible refine Kd.C_alloc ?_ _)|(with_reducible refine Kd.C_drewN ?_ _)|(with_reducible refine Kd.C_drew ?_)))
          (case side2=>exact HC1.out)
          rintro e w56 ⟨v375,rfl,ho0,hb⟩
          refine ⟨_,rfl,?_⟩
          have n0_:=Aside0.mk (Kd.S_elder' (by (with_reducible repeat (first|apply Kd.S_alloc|apply Kd.S_drewN|apply Kd.S_drew));exact Ac.out) (Kd.R_base ho0) hb)
          have n1_:=Aside0.mk (Kd.R_elder' (qRs21_ Ak.out) (Kd.R_base ho0) hb)
          have n2_:=Aside0.mk (Kd.R_lower (Kd.R_new' ho0 (Kd.R_lt (qRs21_ Ak.out))) (below_size qBs21_4))
          have n3_:=Aside0.mk (blk_below (g:=Ab) (o:=.cells #[.int .i64 a0_0,.int .i64 a0_1,.slice A0_2 l0_2.length c0_2,.int .i64 a0_3,.int .u32 a0_4] 25 (0,0)) (qDs21_ Aa.out) hb)
          have n4_:=Aside0.mk (blk_below (g:=Af) (o:=.cells #[.int .i64 Al,.int .i64 Am,.slice As Ai.length Ar,.int .i64 Ap,.int .u32 Aq] 25 (0,0)) (qDs21_ Ad.out) hb)
          have n5_:=Aside0.mk (below_step qBs21_4 hb)
          clear Ac
          clear Ak
          clear Aa
          clear Ad
          clear HB
          have Ac:=n0_
          have Ak:=n1_
          have At:=n2_
          have Aa:=n3_
          have Ad:=n4_
          have HB:=n5_
          clear n0_ n1_ n2_ n3_ n4_ n5_
          (try clear hb)
          (try clear hb2)
          (try clear hk)
          (try clear hi)
          (try clear ho0)
          obtain ⟨Ao57,co57,eo57⟩:=Kd.R_slice Ak.out
          (first|subst eo57|(injection eo57 with f1_ f2_ f3_;have f4_:=f1_.symm;have f5_:=f3_.symm;clear f1_ f2_ f3_;subst f4_;subst f5_))
          obtain ⟨Ao58,co58,eo58⟩:=Kd.R_slice At.out
          (first|subst eo58|(injection eo58 with f1_ f2_ f3_;have f4_:=f1_.symm;have f5_:=f3_.symm;clear f1_ f2_ f3_;subst f4_;subst f5_))
          refine hK.out _ _ ⟨(blk_cell Aa.out 0).trans rfl,(blk_cell Aa.out 1).trans rfl,(blk_cell Aa.out 2).trans rfl,(blk_cell Aa.out 3).trans rfl,(blk_cell Aa.out 4).trans rfl⟩ (fun hHeld=>?_)
          clear hK K
          refine norm_ (a':=?_) ?_ ?_
          rotate_left
          ·show Act.put _ (some 120) _ = _
           simp only [Act.put,List.setIfInBounds_toArray,List.set_cons_zero,List.set_cons_succ,i64_w,i32_w]
           rfl
          refine one_ (i:=8) (N:=some 121) #[true,true,true,true,true,true,true,true,true,false,false,false,false,false] rfl rfl (one_of HT_.out (by kernel_rfl)) (by decide) (fun K hK=>?_)
          refine goes_ Try.func5 (by kernel_rfl) rfl #[.agg #[.int .i64 a0_0,.int .i64 a0_1,.slice A0_2 l0_2.length c0_2,.int .i64 a0_3,.int .u32 a0_4],.slice Ao57 Aw.length co57,.slice Ao58 Av.length co58] (by rfl) rfl rfl qAs21_5 ?_
          with_reducible refine (kinds_Same.calls kj33 a0_0 a0_1 _ _ l0_2 a0_3 a0_4 (fun k_=>some k_ = (.slice Ao57 Aw.length co57 : Value).ownBlock) _ _ Aw (fun k_=>some k_ = (.slice Ao58 Av.length co58 : Value).ownBlock) _ _ Av t377 t378 _ ?side1 ?side2 ?side3 ?side4 A52.out).mono ?_
          (case side1=>repeat (first|exact (Kd.C_below HR0_2.out HB.out)|(with_reducible refine Kd.C_alloc ?_ _)|(with_reducible refine Kd.C_drewN ?_ _)|(with_reducible refine Kd.C_drew ?_)))
          (case side2=>exact HC0_2.out)
          (case side3=>exact Kd.R_V (Kd.R_tight rfl (Kd.R_types (Kd.R_types (Kd.R_apart' (Ak.out) (Kd.S_typed Ac.out) (by decide)) Aa.out (by decide)) Ad.out (by decide))))
          (case side4=>exact Kd.R_V (Kd.R_tight rfl (Kd.R_types (Kd.R_types (Kd.R_apart' (At.out) (Kd.S_typed Ac.out) (by decide)) Aa.out (by decide)) Ad.out (by decide))))
          rintro e w59 ⟨rfl,hb⟩
          refine ⟨_,rfl,?_⟩
          have n0_:=Aside0.mk (Kd.S_below (by (with_reducible repeat (first|apply Kd.S_alloc|apply Kd.S_drewN|apply Kd.S_drew));exact Ac.out) hb)
          have n1_:=Aside0.mk (Kd.R_below (qRs21_ Ak.out) hb)
          have n2_:=Aside0.mk (Kd.R_below (qRs21_ At.out) hb)
          have n3_:=Aside0.mk (blk_below (g:=Ab) (o:=.cells #[.int .i64 a0_0,.int .i64 a0_1,.slice A0_2 l0_2.length c0_2,.int .i64 a0_3,.int .u32 a0_4] 25 (0,0)) (qDs21_ Aa.out) hb)
          have n4_:=Aside0.mk (blk_below (g:=Af) (o:=.cells #[.int .i64 Al,.int .i64 Am,.slice As Ai.length Ar,.int .i64 Ap,.int .u32 Aq] 25 (0,0)) (qDs21_ Ad.out) hb)
          have n5_:=Aside0.mk (below_step qBs21_4 hb)
          clear Ac
          clear Ak
          clear At
          clear Aa
          clear Ad
          clear HB
          have Ac:=n0_
          have Ak:=n1_
          have At:=n2_
          have Aa:=n3_
          have Ad:=n4_
          have HB:=n5_
          clear n0_ n1_ n2_ n3_ n4_ n5_
          (try clear hb)
          (try clear hb2)
          (try clear hk)
          (try clear hi)
          refine hK.out _ _ ⟨(blk_cell Aa.out 0).trans rfl,(blk_cell Aa.out 1).trans rfl,(blk_cell Aa.out 2).trans rfl,(blk_cell Aa.out 3).trans rfl,(blk_cell Aa.out 4).trans rfl⟩ (fun hHeld=>?_)
          clear hK K
          refine norm_ (a':=?_) ?_ ?_
          rotate_left
          ·show Act.put _ (some 121) _ = _
           simp only [Act.put,List.setIfInBounds_toArray,List.set_cons_zero,List.set_cons_succ,i64_w,i32_w]
           rfl
          refine pure_ (i:=9) (N:=some 112) (v:=?_) (a':=?_) #[true,true,true,true,true,true,true,true,true,true,false,false,false,false] rfl rfl (any_of HT_.out (by kernel_rfl)) (fun _ _ _ h=>h) (Or.inl ⟨by rfl,?_⟩) ?_ ?_
          rotate_left
          ·intro w'
           go_simp
           with_reducible rfl
          rotate_left
          ·simp only [Act.put,List.setIfInBounds_toArray,List.set_cons_zero,List.set_cons_succ,i64_w,i32_w]
           rfl
          refine pure_ (i:=10) (N:=some 122) (v:=?_) (a':=?_) #[true,true,true,true,true,true,true,true,true,true,true,false,false,false] rfl rfl (any_of HT_.out (by kernel_rfl)) (fun _ _ _ h=>h) (Or.inl ⟨by rfl,?_⟩) ?_ ?_
          rotate_left
          ·intro w'
           go_simp
           with_reducible rfl
          rotate_left
          ·simp only [Act.put,List.setIfInBounds_toArray,List.set_cons_zero,List.set_cons_succ,i64_w,i32_w]
           rfl
          refine pure_ (i:=11) (N:=some 123) (v:=?_) (a':=?_) #[true,true,true,true,true,true,true,true,true,true,true,true,false,false] rfl rfl (any_of HT_.out (by kernel_rfl)) (fun _ _ _ h=>h) (Or.inl ⟨by rfl,?_⟩) ?_ ?_
          rotate_left
          ·intro w'
           go_simp
           with_reducible rfl
          rotate_left
          ·simp only [Act.put,List.setIfInBounds_toArray,List.set_cons_zero,List.set_cons_succ,i64_w,i32_w]
           rfl
          refine pure_ (i:=12) (N:=some 15) (v:=?_) (a':=?_) #[true,true,true,true,true,true,true,true,true,true,true,true,true,false] rfl rfl (any_of HT_.out (by kernel_rfl)) (fun _ _ _ h=>h) (Or.inl ⟨by rfl,?_⟩) ?_ ?_
          rotate_left
          ·intro w'
           go_simp
           with_reducible rfl
          rotate_left
          ·simp only [Act.put,List.setIfInBounds_toArray,List.set_cons_zero,List.set_cons_succ,i64_w,i32_w]
           rfl
          refine pure_ (i:=13) (N:=some 8) (v:=?_) (a':=?_) #[true,true,true,true,true,true,true,true,true,true,true,true,true,true] rfl rfl (any_of HT_.out (by kernel_rfl)) (fun _ _ _ h=>h) (Or.inl ⟨by rfl,?_⟩) ?_ ?_
          rotate_left
          ·intro w'
           go_simp
           with_reducible rfl
          rotate_left
          ·simp only [Act.put,List.setIfInBounds_toArray,List.set_cons_zero,List.set_cons_succ,i64_w,i32_w]
           rfl
          refine done_ (done_of HT_.out (by kernel_rfl)) ?_
          try go_wp2
          go_ret
          exact ⟨by first|rfl|(simp [errW_none,errW_some] <;> rfl)|(simp [*,errW_none,errW_some] <;> rfl),by repeat (first|(with_reducible first|exact HB.out|apply below_alloc|apply pw_below_drewN|apply below_drew1|refine below_set ?_ Ah.out|refine below_set ?_ An.out)|exact HB.out)⟩
         ·rw [if_neg c53] at H
          have c53b0 : (t378 == 0) = false:=beq_eq_false_iff_ne.mpr c53
          have c53b1 : (t378 != 0) = true:=bne_iff_ne.mpr c53
          obtain rfl:=Option.some.inj H
          try go_wp2
          have n0_:=Aside0.mk (Kd.S_drew Ac.out)
          have n1_:=Aside0.mk (blk_drew Aa.out)
          have n2_:=Aside0.mk (blk_drew Ad.out)
          have n3_:=Aside0.mk (below_drew1 HB.out)
          clear Ac
          clear Aa
          clear Ad
          clear HB
          have Ac:=n0_
          have Aa:=n1_
          have Ad:=n2_
          have HB:=n3_
          clear n0_ n1_ n2_ n3_
          refine start_ (n:=14) (S:=fun w'=>w'.cell? ⟨Ab,0,none⟩ = some (.int .i64 a0_0) ∧ w'.cell? ⟨Ab,1,none⟩ = some (.int .i64 a0_1) ∧ w'.cell? ⟨Ab,2,none⟩ = some (.slice A0_2 l0_2.length c0_2) ∧ w'.cell? ⟨Ab,3,none⟩ = some (.int .i64 a0_3) ∧ w'.cell? ⟨Ab,4,none⟩ = some (.int .u32 a0_4)) (ds:=[]) #[false,false,false,false,false,false,false,false,false,false,false,false,false,false] (by kernel_rfl) rfl rfl ⟨(blk_cell Aa.out 0).trans rfl,(blk_cell Aa.out 1).trans rfl,(blk_cell Aa.out 2).trans rfl,(blk_cell Aa.out 3).trans rfl,(blk_cell Aa.out 4).trans rfl⟩ (fun hHeld=>?_);refine with_tabW coppicerkeep_KindsStill.tab14 coppicerkeep_KindsStill.bits14 (fun HT_ HW_=>?_)
          generalize wc.drew = w60 at Ac Aa Ad HB hHeld ⊢
          refine pure_ (i:=1) (N:=some 114) (v:=?_) (a':=?_) #[false,true,false,false,false,false,false,false,false,false,false,false,false,false] rfl rfl (any_of HT_.out (by kernel_rfl)) (fun _ _ _ h=>h) (Or.inl ⟨by rfl,?_⟩) ?_ ?_
          rotate_left
          ·intro w'
           go_simp
           with_reducible rfl
          rotate_left
          ·simp only [Act.put,List.setIfInBounds_toArray,List.set_cons_zero,List.set_cons_succ,i64_w,i32_w]
           rfl
          refine pure_ (i:=2) (N:=some 115) (v:=?_) (a':=?_) #[false,true,true,false,false,false,false,false,false,false,false,false,false,false] rfl rfl (any_of HT_.out (by kernel_rfl)) (fun _ _ _ h=>h) (Or.inl ⟨by rfl,?_⟩) ?_ ?_
          rotate_left
          ·intro w'
           go_simp
           with_reducible rfl
          rotate_left
          ·simp only [Act.put,List.setIfInBounds_toArray,List.set_cons_zero,List.set_cons_succ,i64_w,i32_w]
           rfl
          refine pure_ (i:=4) (N:=some 117) (v:=?_) (a':=?_) #[false,true,true,false,true,false,false,false,false,false,false,false,false,false] rfl rfl (any_of HT_.out (by kernel_rfl)) (fun _ _ _ h=>h) (Or.inl ⟨by rfl,?_⟩) ?_ ?_
          rotate_left
          ·intro w'
           go_simp
           with_reducible rfl
          rotate_left
          ·simp only [Act.put,List.setIfInBounds_toArray,List.set_cons_zero,List.set_cons_succ,i64_w,i32_w]
           rfl
          refine pure_ (i:=5) (N:=some 118) (v:=?_) (a':=?_) #[false,true,true,false,true,true,false,false,false,false,false,false,false,false] rfl rfl (any_of HT_.out (by kernel_rfl)) (fun _ _ _ h=>h) (Or.inl ⟨by rfl,?_⟩) ?_ ?_
          rotate_left
          ·intro w'
           go_simp
           with_reducible rfl
          rotate_left
          ·simp only [Act.put,List.setIfInBounds_toArray,List.set_cons_zero,List.set_cons_succ,i64_w,i32_w]
           rfl
          refine pure_ (i:=6) (N:=some 119) (v:=?_) (a':=?_) #[false,true,true,false,true,true,true,false,false,false,false,false,false,false] rfl rfl (any_of HT_.out (by kernel_rfl)) (fun _ _ _ h=>h) (Or.inl ⟨by rfl,?_⟩) ?_ ?_
          rotate_left
          ·intro w'
           go_simp
           with_reducible rfl
          rotate_left
          ·simp only [Act.put,List.setIfInBounds_toArray,List.set_cons_zero,List.set_cons_succ,i64_w,i32_w]
           rfl
          refine take_ (i:=0) (N:=some 113) (v:=?_) (a':=?_) #[true,true,true,false,true,true,true,false,false,false,false,false,false,false] rfl rfl (take_ofW HT_.out HW_.out (by kernel_rfl)) (fun _ _ _ h=>h) (Or.inl ⟨by rfl,?_⟩) hHeld ?_ ?_
          rotate_left
          ·rintro w' ⟨s0,s1,s2,s3,s4⟩
           go_simp
           with_reducible rfl
          rotate_left
          ·simp only [Act.put,List.setIfInBounds_toArray,List.set_cons_zero,List.set_cons_succ,i64_w,i32_w]
           rfl
          refine one_ (i:=3) (N:=some 116) #[true,true,true,true,true,true,true,false,false,false,false,false,false,false] rfl rfl (one_of HT_.out (by kernel_rfl)) (by decide) (fun K hK=>?_)
          refine goes_ Try.func12 (by kernel_rfl) rfl #[.slice A1 l1.length c1,.int .i64 Ae] (by rfl) rfl rfl qAs21_5 ?_
          with_reducible refine (coppicerref_Again.calls kj33 _ _ l1 Ae Aw _ ?side1 ?side2 A50.out).mono ?_
          (case side1=>repeat (first|exact (Kd.C_below HR1.out HB.out)|(with_reducible refine Kd.C_alloc ?_ _)|(with_reducible refine Kd.C_drewN ?_ _)|(with_reducible refine Kd.C_drew ?_)))
          (case side2=>exact HC1.out)
          rintro e w61 ⟨v372,rfl,ho0,hb⟩
          refine ⟨_,rfl,?_⟩
          have n0_:=Aside0.mk (Kd.S_elder' (by (with_reducible repeat (first|apply Kd.S_alloc|apply Kd.S_drewN|apply Kd.S_drew));exact Ac.out) (Kd.R_base ho0) hb)
          have n1_:=Aside0.mk (Kd.R_lower ho0 (below_size qBs21_4))
          have n2_:=Aside0.mk (blk_below (g:=Ab) (o:=.cells #[.int .i64 a0_0,.int .i64 a0_1,.slice A0_2 l0_2.length c0_2,.int .i64 a0_3,.int .u32 a0_4] 25 (0,0)) (qDs21_ Aa.out) hb)
          have n3_:=Aside0.mk (blk_below (g:=Af) (o:=.cells #[.int .i64 Al,.int .i64 Am,.slice As Ai.length Ar,.int .i64 Ap,.int .u32 Aq] 25 (0,0)) (qDs21_ Ad.out) hb)
          have n4_:=Aside0.mk (below_step qBs21_4 hb)
          clear Ac
          clear Aa
          clear Ad
          clear HB
          have Ac:=n0_
          have Ak:=n1_
          have Aa:=n2_
          have Ad:=n3_
          have HB:=n4_
          clear n0_ n1_ n2_ n3_ n4_
          (try clear hb)
          (try clear hb2)
          (try clear hk)
          (try clear hi)
          (try clear ho0)
          refine hK.out _ _ ⟨(blk_cell Aa.out 0).trans rfl,(blk_cell Aa.out 1).trans rfl,(blk_cell Aa.out 2).trans rfl,(blk_cell Aa.out 3).trans rfl,(blk_cell Aa.out 4).trans rfl⟩ (fun hHeld=>?_)
          clear hK K
          refine norm_ (a':=?_) ?_ ?_
          rotate_left
          ·show Act.put _ (some 116) _ = _
           simp only [Act.put,List.setIfInBounds_toArray,List.set_cons_zero,List.set_cons_succ,i64_w,i32_w]
           rfl
          refine one_ (i:=7) (N:=some 120) #[true,true,true,true,true,true,true,true,false,false,false,false,false,false] rfl rfl (one_of HT_.out (by kernel_rfl)) (by decide) (fun K hK=>?_)
          refine goes_ Try.func12 (by kernel_rfl) rfl #[.slice A1 l1.length c1,.int .i64 (wrap64 (Ae + 1))] (by rfl) rfl rfl qAs21_5 ?_
          with_reducible refine (coppicerref_Again.calls kj33 _ _ l1 (wrap64 (Ae + 1)) Av _ ?side1 ?side2 A51.out).mono ?_
          (case side1=>repeat (first|exact (Kd.C_below HR1.out HB.out)|(with_reducible refine Kd.C_alloc ?_ _)|(with_reducible refine Kd.C_drewN ?_ _)|(with_reducible refine Kd.C_drew ?_)))
          (case side2=>exact HC1.out)
          rintro e w62 ⟨v375,rfl,ho0,hb⟩
          refine ⟨_,rfl,?_⟩
          have n0_:=Aside0.mk (Kd.S_elder' (by (with_reducible repeat (first|apply Kd.S_alloc|apply Kd.S_drewN|apply Kd.S_drew));exact Ac.out) (Kd.R_base ho0) hb)
          have n1_:=Aside0.mk (Kd.R_elder' (qRs21_ Ak.out) (Kd.R_base ho0) hb)
          have n2_:=Aside0.mk (Kd.R_lower (Kd.R_new' ho0 (Kd.R_lt (qRs21_ Ak.out))) (below_size qBs21_4))
          have n3_:=Aside0.mk (blk_below (g:=Ab) (o:=.cells #[.int .i64 a0_0,.int .i64 a0_1,.slice A0_2 l0_2.length c0_2,.int .i64 a0_3,.int .u32 a0_4] 25 (0,0)) (qDs21_ Aa.out) hb)
          have n4_:=Aside0.mk (blk_below (g:=Af) (o:=.cells #[.int .i64 Al,.int .i64 Am,.slice As Ai.length Ar,.int .i64 Ap,.int .u32 Aq] 25 (0,0)) (qDs21_ Ad.out) hb)
          have n5_:=Aside0.mk (below_step qBs21_4 hb)
          clear Ac
          clear Ak
          clear Aa
          clear Ad
          clear HB
          have Ac:=n0_
          have Ak:=n1_
          have At:=n2_
          have Aa:=n3_
          have Ad:=n4_
          have HB:=n5_
          clear n0_ n1_ n2_ n3_ n4_ n5_
          (try clear hb)
          (try clear hb2)
          (try clear hk)
          (try clear hi)
          (try clear ho0)
          obtain ⟨Ao63,co63,eo63⟩:=Kd.R_slice Ak.out
          (first|subst eo63|(injection eo63 with f1_ f2_ f3_;have f4_:=f1_.symm;have f5_:=f3_.symm;clear f1_ f2_ f3_;subst f4_;subst f5_))
          obtain ⟨Ao64,co64,eo64⟩:=Kd.R_slice At.out
          (first|subst eo64|(injection eo64 with f1_ f2_ f3_;have f4_:=f1_.symm;have f5_:=f3_.symm;clear f1_ f2_ f3_;subst f4_;subst f5_))
          refine hK.out _ _ ⟨(blk_cell Aa.out 0).trans rfl,(blk_cell Aa.out 1).trans rfl,(blk_cell Aa.out 2).trans rfl,(blk_cell Aa.out 3).trans rfl,(blk_cell Aa.out 4).trans rfl⟩ (fun hHeld=>?_)
          clear hK K
          refine norm_ (a':=?_) ?_ ?_
          rotate_left
          ·show Act.put _ (some 120) _ = _
           simp only [Act.put,List.setIfInBounds_toArray,List.set_cons_zero,List.set_cons_succ,i64_w,i32_w]
           rfl
          refine one_ (i:=8) (N:=some 121) #[true,true,true,true,true,true,true,true,true,false,false,false,false,false] rfl rfl (one_of HT_.out (by kernel_rfl)) (by decide) (fun K hK=>?_)
          refine goes_ Try.func5 (by kernel_rfl) rfl #[.agg #[.int .i64 a0_0,.int .i64 a0_1,.slice A0_2 l0_2.length c0_2,.int .i64 a0_3,.int .u32 a0_4],.slice Ao63 Aw.length co63,.slice Ao64 Av.length co64] (by rfl) rfl rfl qAs21_5 ?_
          with_reducible refine (kinds_Same.calls kj33 a0_0 a0_1 _ _ l0_2 a0_3 a0_4 (fun k_=>some k_ = (.slice Ao63 Aw.length co63 : Value).ownBlock) _ _ Aw (fun k_=>some k_ = (.slice Ao64 Av.length co64 : Value).ownBlock) _ _ Av t377 t378 _ ?side1 ?side2 ?side3 ?side4 A52.out).mono ?_
          (case side1=>repeat (first|exact (Kd.C_below HR0_2.out HB.out)|(with_reducible refine Kd.C_alloc ?_ _)|(with_reducible refine Kd.C_drewN ?_ _)|(with_reducible refine Kd.C_drew ?_)))
          (case side2=>exact HC0_2.out)
          (case side3=>exact Kd.R_V (Kd.R_tight rfl (Kd.R_types (Kd.R_types (Kd.R_apart' (Ak.out) (Kd.S_typed Ac.out) (by decide)) Aa.out (by decide)) Ad.out (by decide))))
          (case side4=>exact Kd.R_V (Kd.R_tight rfl (Kd.R_types (Kd.R_types (Kd.R_apart' (At.out) (Kd.S_typed Ac.out) (by decide)) Aa.out (by decide)) Ad.out (by decide))))
          rintro e w65 ⟨rfl,hb⟩
          refine ⟨_,rfl,?_⟩
          have n0_:=Aside0.mk (Kd.S_below (by (with_reducible repeat (first|apply Kd.S_alloc|apply Kd.S_drewN|apply Kd.S_drew));exact Ac.out) hb)
          have n1_:=Aside0.mk (Kd.R_below (qRs21_ Ak.out) hb)
          have n2_:=Aside0.mk (Kd.R_below (qRs21_ At.out) hb)
          have n3_:=Aside0.mk (blk_below (g:=Ab) (o:=.cells #[.int .i64 a0_0,.int .i64 a0_1,.slice A0_2 l0_2.length c0_2,.int .i64 a0_3,.int .u32 a0_4] 25 (0,0)) (qDs21_ Aa.out) hb)
          have n4_:=Aside0.mk (blk_below (g:=Af) (o:=.cells #[.int .i64 Al,.int .i64 Am,.slice As Ai.length Ar,.int .i64 Ap,.int .u32 Aq] 25 (0,0)) (qDs21_ Ad.out) hb)
          have n5_:=Aside0.mk (below_step qBs21_4 hb)
          clear Ac
          clear Ak
          clear At
          clear Aa
          clear Ad
          clear HB
          have Ac:=n0_
          have Ak:=n1_
          have At:=n2_
          have Aa:=n3_
          have Ad:=n4_
          have HB:=n5_
          clear n0_ n1_ n2_ n3_ n4_ n5_
          (try clear hb)
          (try clear hb2)
          (try clear hk)
          (try clear hi)
          refine hK.out _ _ ⟨(blk_cell Aa.out 0).trans rfl,(blk_cell Aa.out 1).trans rfl,(blk_cell Aa.out 2).trans rfl,(blk_cell Aa.out 3).trans rfl,(blk_cell Aa.out 4).trans rfl⟩ (fun hHeld=>?_)
          clear hK K
          refine norm_ (a':=?_) ?_ ?_
          rotate_left
          ·show Act.put _ (some 121) _ = _
           simp only [Act.put,List.setIfInBounds_toArray,List.set_cons_zero,List.set_cons_succ,i64_w,i32_w]
           rfl
          refine pure_ (i:=9) (N:=some 112) (v:=?_) (a':=?_) #[true,true,true,true,true,true,true,true,true,true,false,false,false,false] rfl rfl (any_of HT_.out (by kernel_rfl)) (fun _ _ _ h=>h) (Or.inl ⟨by rfl,?_⟩) ?_ ?_
          rotate_left
          ·intro w'
           go_simp
           with_reducible rfl
          rotate_left
          ·simp only [Act.put,List.setIfInBounds_toArray,List.set_cons_zero,List.set_cons_succ,i64_w,i32_w]
           rfl
          refine pure_ (i:=10) (N:=some 122) (v:=?_) (a':=?_) #[true,true,true,true,true,true,true,true,true,true,true,false,false,false] rfl rfl (any_of HT_.out (by kernel_rfl)) (fun _ _ _ h=>h) (Or.inl ⟨by rfl,?_⟩) ?_ ?_
          rotate_left
          ·intro w'
           go_simp
           with_reducible rfl
          rotate_left
          ·simp only [Act.put,List.setIfInBounds_toArray,List.set_cons_zero,List.set_cons_succ,i64_w,i32_w]
           rfl
          refine pure_ (i:=11) (N:=some 123) (v:=?_) (a':=?_) #[true,true,true,true,true,true,true,true,true,true,true,true,false,false] rfl rfl (any_of HT_.out (by kernel_rfl)) (fun _ _ _ h=>h) (Or.inl ⟨by rfl,?_⟩) ?_ ?_
          rotate_left
          ·intro w'
           go_simp
           with_reducible rfl
          rotate_left
          ·simp only [Act.put,List.setIfInBounds_toArray,List.set_cons_zero,List.set_cons_succ,i64_w,i32_w]
           rfl
          refine pure_ (i:=12) (N:=some 15) (v:=?_) (a':=?_) #[true,true,true,true,true,true,true,true,true,true,true,true,true,false] rfl rfl (any_of HT_.out (by kernel_rfl)) (fun _ _ _ h=>h) (Or.inl ⟨by rfl,?_⟩) ?_ ?_
          rotate_left
          ·intro w'
           go_simp
           with_reducible rfl
          rotate_left
          ·simp only [Act.put,List.setIfInBounds_toArray,List.set_cons_zero,List.set_cons_succ,i64_w,i32_w]
           rfl
          refine pure_ (i:=13) (N:=some 8) (v:=?_) (a':=?_) #[true,true,true,true,true,true,true,true,true,true,true,true,true,true] rfl rfl (any_of HT_.out (by kernel_rfl)) (fun _ _ _ h=>h) (Or.inl ⟨by rfl,?_⟩) ?_ ?_
          rotate_left
          ·intro w'
           go_simp
           with_reducible rfl
          rotate_left
          ·simp only [Act.put,List.setIfInBounds_toArray,List.set_cons_zero,List.set_cons_succ,i64_w,i32_w]
           rfl
          refine done_ (done_of HT_.out (by kernel_rfl)) ?_
          try go_wp2
          go_ret
          exact ⟨by first|rfl|(simp [errW_none,errW_some] <;> rfl)|(simp [*,errW_none,errW_some] <;> rfl),by repeat (first|(with_reducible first|exact HB.out|apply below_alloc|apply pw_below_drewN|apply below_drew1|refine below_set ?_ Ah.out|refine below_set ?_ An.out)|exact HB.out)⟩
     ·rw [if_neg c33] at H
      have c33b0 : (t353 == 0) = false:=beq_eq_false_iff_ne.mpr c33
      have c33b1 : (t353 != 0) = true:=bne_iff_ne.mpr c33
      by_cases c66 : t353 = 1
      ·rw [if_pos c66] at H
       have c66b0 : (t353 == 1) = true:=beq_iff_eq.mpr c66
       have c66b1 : (t353 != 1) = false:=bne_eq_false_iff_eq.mpr c66
       clear c66
       obtain rfl:=Option.some.inj H
       go_wp2
       go_ret
       exact ⟨by first|rfl|(simp [errW_none,errW_some] <;> rfl)|(simp [*,errW_none,errW_some] <;> rfl),by repeat (first|(with_reducible first|exact HB.out|apply below_alloc|apply pw_below_drewN|apply below_drew1|refine below_set ?_ Ah.out|refine below_set ?_ An.out)|exact HB.out)⟩
      ·rw [if_neg c66] at H
       have c66b0 : (t353 == 1) = false:=beq_eq_false_iff_ne.mpr c66
       have c66b1 : (t353 != 1) = true:=bne_iff_ne.mpr c66
       obtain rfl:=Option.some.inj H
       go_wp2
       go_ret
       exact ⟨by first|rfl|(simp [errW_none,errW_some] <;> rfl)|(simp [*,errW_none,errW_some] <;> rfl),by repeat (first|(with_reducible first|exact HB.out|apply below_alloc|apply pw_below_drewN|apply below_drew1|refine below_set ?_ Ah.out|refine below_set ?_ An.out)|exact HB.out)⟩
 ·rw [if_neg c6] at H
  have c6b0 : (t356 == 0) = false:=beq_eq_false_iff_ne.mpr c6
  have c6b1 : (t356 != 0) = true:=bne_iff_ne.mpr c6
  by_cases c67 : t353 = 0
  ·rw [if_pos c67] at H
   have c67b0 : (t353 == 0) = true:=beq_iff_eq.mpr c67
   have c67b1 : (t353 != 0) = false:=bne_eq_false_iff_eq.mpr c67
   clear c67
   obtain rfl:=Option.some.inj H
   go_enter Try.func4,Try.ntmps4
   go_wp2_with (first|((with_reducible refine gate_dst (N:=2) rfl ?_);(try (refine gate_guard (by rfl) ?_;dsimp only));refine box_event ?hg (N:=2) ?hd (cs:=#[.int .i64 a0_0,.int .i64 a0_1,.slice A0_2 l0_2.length c0_2,.int .i64 a0_3,.int .u32 a0_4]) (t:=25) ?hr ?_;(case hd=>rfl);(case hg=>rfl);(case hr=>first|(go_simp;done)|(go_simp;rfl));intro Ab hg w68 hbox hb;have n0_:=Aside0.mk (below_step qBs21_2 hb);have n1_:=Aside0.mk (hbox);have n2_:=Aside0.mk ((by rw [hg];exact (below_size qBs21_2) : w.heap.size ≤ Ab));have n3_:=Aside0.mk ((by rw [hg];exact (below_size qBs21_2) : w.heap.size ≤ Ab));clear HB;have HB:=n0_;have Aa:=n1_;have GW351:=n2_;have Ah:=n3_;clear n0_ n1_ n2_ n3_;clear hb hbox hg;have hcz69_0 : w68.cell? ⟨Ab,0,none⟩ = some (.int .i64 a0_0):=(blk_cell Aa.out 0).trans rfl;have hcz69_1 : w68.cell? ⟨Ab,1,none⟩ = some (.int .i64 a0_1):=(blk_cell Aa.out 1).trans rfl;have hcz69_2 : w68.cell? ⟨Ab,2,none⟩ = some (.slice A0_2 l0_2.length c0_2):=(blk_cell Aa.out 2).trans rfl;have hcz69_3 : w68.cell? ⟨Ab,3,none⟩ = some (.int .i64 a0_3):=(blk_cell Aa.out 3).trans rfl;have hcz69_4 : w68.cell? ⟨Ab,4,none⟩ = some (.int .u32 a0_4):=(blk_cell Aa.out 4).trans rfl;have hfz69_0:=blk_frozen Aa.out 0;have hfz69_1:=blk_frozen Aa.out 1;have hfz69_2:=blk_frozen Aa.out 2;have hfz69_3:=blk_frozen Aa.out 3;have hfz69_4:=blk_frozen Aa.out 4)|((with_reducible refine gate_callee (f:=8) rfl ?_);refine goesL_ (some 18) rfl rfl Try.func8 (by kernel_rfl) rfl #[.agg #[.int .i64 a0_0,.int .i64 a0_1,.slice A0_2 l0_2.length c0_2,.int .i64 a0_3,.int .u32 a0_4]] rfl qAs21_5 ?_;(with_reducible refine (kinds_Still.calls k a0_0 a0_1 _ _ l0_2 a0_3 a0_4 t352 t353 _ ?side1 ?side2 A3.out).mono ?_);(case side1=>repeat (first|exact (Kd.C_below HR0_2.out HB.out)|(with_reducible refine Kd.C_alloc ?_ _)|(with_reducible refine Kd.C_drewN ?_ _)|(with_reducible refine Kd.C_drew ?_)));(case side2=>exact HC0_2.out);rintro e w70 ⟨rfl,hb⟩;refine ⟨_,rfl,?_⟩;have n0_:=Aside0.mk (blk_below (g:=Ab) (o:=.cells #[.int .i64 a0_0,.int .i64 a0_1,.slice A0_2 l0_2.length c0_2,.int .i64 a0_3,.int .u32 a0_4] 25 (0,0)) (qDs21_ Aa.out) hb);have n1_:=Aside0.mk (below_step qBs21_3 hb);clear Aa;clear HB;have Aa:=n0_;have HB:=n1_;clear n0_ n1_;(try clear hb);(try clear hb2);(try clear hk);(try clear hi);have hcz71_0 : w70.cell? ⟨Ab,0,none⟩ = some (.int .i64 a0_0):=(blk_cell Aa.out 0).trans rfl;have hcz71_1 : w70.cell? ⟨Ab,1,none⟩ = some (.int .i64 a0_1):=(blk_cell Aa.out 1).trans rfl;have hcz71_2 : w70.cell? ⟨Ab,2,none⟩ = some (.slice A0_2 l0_2.length c0_2):=(blk_cell Aa.out 2).trans rfl;have hcz71_3 : w70.cell? ⟨Ab,3,none⟩ = some (.int .i64 a0_3):=(blk_cell Aa.out 3).trans rfl;have hcz71_4 : w70.cell? ⟨Ab,4,none⟩ = some (.int .u32 a0_4):=(blk_cell Aa.out 4).trans rfl;have hfz71_0:=blk_frozen Aa.out 0;have hfz71_1:=blk_frozen Aa.out 1;have hfz71_2:=blk_frozen Aa.out 2;have hfz71_3:=blk_frozen Aa.out 3;have hfz71_4:=blk_frozen Aa.out 4)|((with_reducible refine gate_callee (f:=9) rfl ?_);refine goesL_ (some 23) rfl rfl Try.func9 (by kernel_rfl) rfl #[.agg #[.int .i64 a0_0,.int .i64 a0_1,.slice A0_2 l0_2.length c0_2,.int .i64 a0_3,.int .u32 a0_4]] rfl qAs21_5 ?_;(with_reducible refine (kinds_Size.calls k a0_0 a0_1 _ _ l0_2 a0_3 a0_4 Ae Ao _ ?side1 ?side2 A4.out).mono ?_);(case side1=>repeat (first|exact (Kd.C_below HR0_2.out HB.out)|(with_reducible refine Kd.C_alloc ?_ _)|(with_reducible refine Kd.C_drewN ?_ _)|(with_reducible refine Kd.C_drew ?_)));(case side2=>exact HC0_2.out);rintro e w72 ⟨rfl,hb⟩;refine ⟨_,rfl,?_⟩;have n0_:=Aside0.mk (blk_below (g:=Ab) (o:=.cells #[.int .i64 a0_0,.int .i64 a0_1,.slice A0_2 l0_2.length c0_2,.int .i64 a0_3,.int .u32 a0_4] 25 (0,0)) (qDs21_ Aa.out) hb);have n1_:=Aside0.mk (below_step qBs21_3 hb);clear Aa;clear HB;have Aa:=n0_;have HB:=n1_;clear n0_ n1_;(try clear hb);(try clear hb2);(try clear hk);(try clear hi);have hcz73_0 : w72.cell? ⟨Ab,0,none⟩ = some (.int .i64 a0_0):=(blk_cell Aa.out 0).trans rfl;have hcz73_1 : w72.cell? ⟨Ab,1,none⟩ = some (.int .i64 a0_1):=(blk_cell Aa.out 1).trans rfl;have hcz73_2 : w72.cell? ⟨Ab,2,none⟩ = some (.slice A0_2 l0_2.length c0_2):=(blk_cell Aa.out 2).trans rfl;have hcz73_3 : w72.cell? ⟨Ab,3,none⟩ = some (.int .i64 a0_3):=(blk_cell Aa.out 3).trans rfl;have hcz73_4 : w72.cell? ⟨Ab,4,none⟩ = some (.int .u32 a0_4):=(blk_cell Aa.out 4).trans rfl;have hfz73_0:=blk_frozen Aa.out 0;have hfz73_1:=blk_frozen Aa.out 1;have hfz73_2:=blk_frozen Aa.out 2;have hfz73_3:=blk_frozen Aa.out 3;have hfz73_4:=blk_frozen Aa.out 4)|((with_reducible refine gate_callee (f:=10) rfl ?_);refine goesL_ (some 27) rfl rfl Try.func10 (by kernel_rfl) rfl #[.agg #[.int .i64 a0_0,.int .i64 a0_1,.slice A0_2 l0_2.length c0_2,.int .i64 a0_3,.int .u32 a0_4]] rfl qAs21_5 ?_;(with_reducible refine (coppicerref_MachineCheck.calls k a0_0 a0_1 _ _ l0_2 a0_3 a0_4 t356 _ ?side1 ?side2 A5.out).mono ?_);(case side1=>repeat (first|exact (Kd.C_below HR0_2.out HB.out)|(with_reducible refine Kd.C_alloc ?_ _)|(with_reducible refine Kd.C_drewN ?_ _)|(with_reducible refine Kd.C_drew ?_)));(case side2=>exact HC0_2.out);rintro e w74 ⟨rfl,hb⟩;refine ⟨_,rfl,?_⟩;have n0_:=Aside0.mk (blk_below (g:=Ab) (o:=.cells #[.int .i64 a0_0,.int .i64 a0_1,.slice A0_2 l0_2.length c0_2,.int .i64 a0_3,.int .u32 a0_4] 25 (0,0)) (qDs21_ Aa.out) hb);have n1_:=Aside0.mk (below_step qBs21_3 hb);clear Aa;clear HB;have Aa:=n0_;have HB:=n1_;clear n0_ n1_;(try clear hb);(try clear hb2);(try clear hk);(try clear hi)))
   go_ret
   exact ⟨by first|rfl|(simp [errW_none,errW_some] <;> rfl)|(simp [*,errW_none,errW_some] <;> rfl),by repeat (first|(with_reducible first|exact HB.out|apply below_alloc|apply pw_below_drewN|apply below_drew1|refine below_set ?_ Ah.out)|exact HB.out)⟩
  ·rw [if_neg c67] at H
   have c67b0 : (t353 == 0) = false:=beq_eq_false_iff_ne.mpr c67
   have c67b1 : (t353 != 0) = true:=bne_iff_ne.mpr c67
   obtain rfl:=Option.some.inj H
   go_enter Try.func4,Try.ntmps4
   go_wp2_with (first|((with_reducible refine gate_dst (N:=2) rfl ?_);(try (refine gate_guard (by rfl) ?_;dsimp only));refine box_event ?hg (N:=2) ?hd (cs:=#[.int .i64 a0_0,.int .i64 a0_1,.slice A0_2 l0_2.length c0_2,.int .i64 a0_3,.int .u32 a0_4]) (t:=25) ?hr ?_;(case hd=>rfl);(case hg=>rfl);(case hr=>first|(go_simp;done)|(go_simp;rfl));intro Ab hg w75 hbox hb;have n0_:=Aside0.mk (below_step qBs21_2 hb);have n1_:=Aside0.mk (hbox);have n2_:=Aside0.mk ((by rw [hg];exact (below_size qBs21_2) : w.heap.size ≤ Ab));have n3_:=Aside0.mk ((by rw [hg];exact (below_size qBs21_2) : w.heap.size ≤ Ab));clear HB;have HB:=n0_;have Aa:=n1_;have GW351:=n2_;have Ah:=n3_;clear n0_ n1_ n2_ n3_;clear hb hbox hg;have hcz76_0 : w75.cell? ⟨Ab,0,none⟩ = some (.int .i64 a0_0):=(blk_cell Aa.out 0).trans rfl;have hcz76_1 : w75.cell? ⟨Ab,1,none⟩ = some (.int .i64 a0_1):=(blk_cell Aa.out 1).trans rfl;have hcz76_2 : w75.cell? ⟨Ab,2,none⟩ = some (.slice A0_2 l0_2.length c0_2):=(blk_cell Aa.out 2).trans rfl;have hcz76_3 : w75.cell? ⟨Ab,3,none⟩ = some (.int .i64 a0_3):=(blk_cell Aa.out 3).trans rfl;have hcz76_4 : w75.cell? ⟨Ab,4,none⟩ = some (.int .u32 a0_4):=(blk_cell Aa.out 4).trans rfl;have hfz76_0:=blk_frozen Aa.out 0;have hfz76_1:=blk_frozen Aa.out 1;have hfz76_2:=blk_frozen Aa.out 2;have hfz76_3:=blk_frozen Aa.out 3;have hfz76_4:=blk_frozen Aa.out 4)|((with_reducible refine gate_callee (f:=8) rfl ?_);refine goesL_ (some 18) rfl rfl Try.func8 (by kernel_rfl) rfl #[.agg #[.int .i64 a0_0,.int .i64 a0_1,.slice A0_2 l0_2.length c0_2,.int .i64 a0_3,.int .u32 a0_4]] rfl qAs21_5 ?_;(with_reducible refine (kinds_Still.calls k a0_0 a0_1 _ _ l0_2 a0_3 a0_4 t352 t353 _ ?side1 ?side2 A3.out).mono ?_);(case side1=>repeat (first|exact (Kd.C_below HR0_2.out HB.out)|(with_reducible refine Kd.C_alloc ?_ _)|(with_reducible refine Kd.C_drewN ?_ _)|(with_reducible refine Kd.C_drew ?_)));(case side2=>exact HC0_2.out);rintro e w77 ⟨rfl,hb⟩;refine ⟨_,rfl,?_⟩;have n0_:=Aside0.mk (blk_below (g:=Ab) (o:=.cells #[.int .i64 a0_0,.int .i64 a0_1,.slice A0_2 l0_2.length c0_2,.int .i64 a0_3,.int .u32 a0_4] 25 (0,0)) (qDs21_ Aa.out) hb);have n1_:=Aside0.mk (below_step qBs21_3 hb);clear Aa;clear HB;have Aa:=n0_;have HB:=n1_;clear n0_ n1_;(try clear hb);(try clear hb2);(try clear hk);(try clear hi);have hcz78_0 : w77.cell? ⟨Ab,0,none⟩ = some (.int .i64 a0_0):=(blk_cell Aa.out 0).trans rfl;have hcz78_1 : w77.cell? ⟨Ab,1,none⟩ = some (.int .i64 a0_1):=(blk_cell Aa.out 1).trans rfl;have hcz78_2 : w77.cell? ⟨Ab,2,none⟩ = some (.slice A0_2 l0_2.length c0_2):=(blk_cell Aa.out 2).trans rfl;have hcz78_3 : w77.cell? ⟨Ab,3,none⟩ = some (.int .i64 a0_3):=(blk_cell Aa.out 3).trans rfl;have hcz78_4 : w77.cell? ⟨Ab,4,none⟩ = some (.int .u32 a0_4):=(blk_cell Aa.out 4).trans rfl;have hfz78_0:=blk_frozen Aa.out 0;have hfz78_1:=blk_frozen Aa.out 1;have hfz78_2:=blk_frozen Aa.out 2;have hfz78_3:=blk_frozen Aa.out 3;have hfz78_4:=blk_frozen Aa.out 4)|((with_reducible refine gate_callee (f:=9) rfl ?_);refine goesL_ (some 23) rfl rfl Try.func9 (by kernel_rfl) rfl #[.agg #[.int .i64 a0_0,.int .i64 a0_1,.slice A0_2 l0_2.length c0_2,.int .i64 a0_3,.int .u32 a0_4]] rfl qAs21_5 ?_;(with_reducible refine (kinds_Size.calls k a0_0 a0_1 _ _ l0_2 a0_3 a0_4 Ae Ao _ ?side1 ?side2 A4.out).mono ?_);(case side1=>repeat (first|exact (Kd.C_below HR0_2.out HB.out)|(with_reducible refine Kd.C_alloc ?_ _)|(with_reducible refine Kd.C_drewN ?_ _)|(with_reducible refine Kd.C_drew ?_)));(case side2=>exact HC0_2.out);rintro e w79 ⟨rfl,hb⟩;refine ⟨_,rfl,?_⟩;have n0_:=Aside0.mk (blk_below (g:=Ab) (o:=.cells #[.int .i64 a0_0,.int .i64 a0_1,.slice A0_2 l0_2.length c0_2,.int .i64 a0_3,.int .u32 a0_4] 25 (0,0)) (qDs21_ Aa.out) hb);have n1_:=Aside0.mk (below_step qBs21_3 hb);clear Aa;clear HB;have Aa:=n0_;have HB:=n1_;clear n0_ n1_;(try clear hb);(try clear hb2);(try clear hk);(try clear hi);have hcz80_0 : w79.cell? ⟨Ab,0,none⟩ = some (.int .i64 a0_0):=(blk_cell Aa.out 0).trans rfl;have hcz80_1 : w79.cell? ⟨Ab,1,none⟩ = some (.int .i64 a0_1):=(blk_cell Aa.out 1).trans rfl;have hcz80_2 : w79.cell? ⟨Ab,2,none⟩ = some (.slice A0_2 l0_2.length c0_2):=(blk_cell Aa.out 2).trans rfl;have hcz80_3 : w79.cell? ⟨Ab,3,none⟩ = some (.int .i64 a0_3):=(blk_cell Aa.out 3).trans rfl;have hcz80_4 : w79.cell? ⟨Ab,4,none⟩ = some (.int .u32 a0_4):=(blk_cell Aa.out 4).trans rfl;have hfz80_0:=blk_frozen Aa.out 0;have hfz80_1:=blk_frozen Aa.out 1;have hfz80_2:=blk_frozen Aa.out 2;have hfz80_3:=blk_frozen Aa.out 3;have hfz80_4:=blk_frozen Aa.out 4)|((with_reducible refine gate_callee (f:=10) rfl ?_);refine goesL_ (some 27) rfl rfl Try.func10 (by kernel_rfl) rfl #[.agg #[.int .i64 a0_0,.int .i64 a0_1,.slice A0_2 l0_2.length c0_2,.int .i64 a0_3,.int .u32 a0_4]] rfl qAs21_5 ?_;(with_reducible refine (coppicerref_MachineCheck.calls k a0_0 a0_1 _ _ l0_2 a0_3 a0_4 t356 _ ?side1 ?side2 A5.out).mono ?_);(case side1=>repeat (first|exact (Kd.C_below HR0_2.out HB.out)|(with_reducible refine Kd.C_alloc ?_ _)|(with_reducible refine Kd.C_drewN ?_ _)|(with_reducible refine Kd.C_drew ?_)));(case side2=>exact HC0_2.out);rintro e w81 ⟨rfl,hb⟩;refine ⟨_,rfl,?_⟩;have n0_:=Aside0.mk (blk_below (g:=Ab) (o:=.cells #[.int .i64 a0_0,.int .i64 a0_1,.slice A0_2 l0_2.length c0_2,.int .i64 a0_3,.int .u32 a0_4] 25 (0,0)) (qDs21_ Aa.out) hb);have n1_:=Aside0.mk (below_step qBs21_3 hb);clear Aa;clear HB;have Aa:=n0_;have HB:=n1_;clear n0_ n1_;(try clear hb);(try clear hb2);(try clear hk);(try clear hi)))
   go_ret
   exact ⟨by first|rfl|(simp [errW_none,errW_some] <;> rfl)|(simp [*,errW_none,errW_some] <;> rfl),by repeat (first|(with_reducible first|exact HB.out|apply below_alloc|apply pw_below_drewN|apply below_drew1|refine below_set ?_ Ah.out)|exact HB.out)⟩
/-- THE ONE PURE STATEMENT of coppicerkeep_KindsStill: yours. -/
def coppicerkeep_KindsStill.Pure : Prop:=∀ (a0_0 : Int) (a0_1 : Int) (l0_2 : List (List Int)) (a0_3 : Int) (a0_4 : Int) (l1 : List Int),((Lit.int .i64 a0_0).wf = true) → ((Lit.int .i64 a0_1).wf = true) → (l0_2.length ≤ 9223372036854775807 ∧ l0_2.length * 24 ≤ 140737488351232 ∧ ∀ y_ ∈ l0_2,y_.length ≤ 9223372036854775807 ∧ y_.length * 8 ≤ 140737488351232 ∧ ∀ y__ ∈ y_,(Lit.int .i64 y__).wf = true) → ((Lit.int .i64 a0_3).wf = true) → ((Lit.int .u32 a0_4).wf = true) → (l1.length ≤ 9223372036854775807 ∧ l1.length * 8 ≤ 140737488351232 ∧ ∀ y_ ∈ l1,(Lit.int .i64 y_).wf = true) → ∃ k,coppicerkeep_KindsStill.f k a0_0 a0_1 l0_2 a0_3 a0_4 l1 = some true
theorem coppicerkeep_KindsStill.walk (P : coppicerkeep_KindsStill.Pure) (a0_0 : Int) (a0_1 : Int) (A0_2 : Option Addr) (l0_2 : List (List Int)) (c0_2 : Nat) (a0_3 : Int) (a0_4 : Int) (A1 : Option Addr) (l1 : List Int) (c1 : Nat) (w : World) (w0_0 : (Lit.int .i64 a0_0).wf = true) (w0_1 : (Lit.int .i64 a0_1).wf = true) (hr0_2 : Kd.C (Kd.slice 3 (Kd.int .i64)) w A0_2 l0_2.length l0_2) (hc0_2 : l0_2.length ≤ c0_2) (w0_2 : l0_2.length ≤ 9223372036854775807 ∧ l0_2.length * 24 ≤ 140737488351232 ∧ ∀ y_ ∈ l0_2,y_.length ≤ 9223372036854775807 ∧ y_.length * 8 ≤ 140737488351232 ∧ ∀ y__ ∈ y_,(Lit.int .i64 y__).wf = true) (w0_3 : (Lit.int .i64 a0_3).wf = true) (w0_4 : (Lit.int .u32 a0_4).wf = true) (hr1 : Kd.C (Kd.int .i64) w A1 l1.length l1) (hc1 : l1.length ≤ c1) (w1 : l1.length ≤ 9223372036854775807 ∧ l1.length * 8 ≤ 140737488351232 ∧ ∀ y_ ∈ l1,(Lit.int .i64 y_).wf = true) :
  Calls Try.prog 4 #[.agg #[.int .i64 a0_0,.int .i64 a0_1,.slice A0_2 l0_2.length c0_2,.int .i64 a0_3,.int .u32 a0_4],.slice A1 l1.length c1] w fun e w'=>e = .returned (.bool true) ∧ Below w.heap.size w w':=by
 obtain ⟨k,h⟩:=P a0_0 a0_1 l0_2 a0_3 a0_4 l1 w0_0 w0_1 w0_2 w0_3 w0_4 w1
 refine (coppicerkeep_KindsStill.calls k _ _ _ _ _ _ _ _ _ _ true w hr0_2 hc0_2 hr1 hc1 h).mono ?_
 rintro e w' ⟨rfl,hd⟩
 exact ⟨rfl,hd⟩
end Go.Proofs.Yteppbihlpicjpaa.GM
