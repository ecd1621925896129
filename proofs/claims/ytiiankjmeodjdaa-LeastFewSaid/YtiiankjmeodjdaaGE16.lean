-- Written by ext.py, a program of this session.
import Derived.Test.YtiiankjmeodjdaaGE0
import Derived.Test.YtiiankjmeodjdaaGE3
import Derived.Test.YtiiankjmeodjdaaGE5
import Derived.Test.YtiiankjmeodjdaaGE6
import Derived.Test.YtiiankjmeodjdaaGE12
import Derived.Test.YtiiankjmeodjdaaGE13
import Derived.Test.YtiiankjmeodjdaaGE15
namespace Go.Proofs.Ytiiankjmeodjdaa.GE
open Go.RowKit Go.Proofs.YtiiankjmeodjdaaW.PrintWords Go.Proofs.YtiiankjmeodjdaaW.PrintLast Go.Proofs.YtiiankjmeodjdaaW.PrintMore
attribute [local go_sem] max2_int min2_int max_two min_two max_three min_three max_four min_four cellIs_set   -- for this text's walks alone
set_option linter.unusedVariables false
set_option linter.unusedSimpArgs false
/-! ### coppicerkeep_LeastFew: function 13 -/
mutual
def coppicerkeep_LeastFew.j0 : Nat → List Int → Int → Int → Bool → Int → Int → List (List Int) → Int → Int → Int → Int → List (List Int) → Int → Int → Int → Int → List (List Int) → Int → Int → Int → Int → List (List Int) → Int → Int → Option (Bool)
 | 0,_,_,_,_,_,_,_,_,_,_,_,_,_,_,_,_,_,_,_,_,_,_,_,_=>none
 | k + 1,x2,x8,x10,x36,x244000,x244001,x244002,x244003,x244004,x245000,x245001,x245002,x245003,x245004,x254000,x254001,x254002,x254003,x254004,x263000,x263001,x263002,x263003,x263004=>if x36 = true then (if x8 = 0 then (some (x10 != 0)) else (some true)) else (if x8 = 0 then (if x10 = 0 then (if x254000 < 1 then (coppicerkeep_LeastFew.j1 k x2 true x244000 x244001 x244002 x244003 x244004 x245000 x245001 x245002 x245003 x245004 x254000 x254001 x254002 x254003 x254004 x263000 x263001 x263002 x263003 x263004) else (if x254000 > x244000 then (coppicerkeep_LeastFew.j1 k x2 true x244000 x244001 x244002 x244003 x244004 x245000 x245001 x245002 x245003 x245004 x254000 x254001 x254002 x254003 x254004 x263000 x263001 x263002 x263003 x263004) else (coppicerkeep_LeastFew.j1 k x2 (decide (x263000 > x245000)) x244000 x244001 x244002 x244003 x244004 x245000 x245001 x245002 x245003 x245004 x254000 x254001 x254002 x254003 x254004 x263000 x263001 x263002 x263003 x263004))) else (coppicerkeep_LeastFew.j1 k x2 true x244000 x244001 x244002 x244003 x244004 x245000 x245001 x245002 x245003 x245004 x254000 x254001 x254002 x254003 x254004 x263000 x263001 x263002 x263003 x263004)) else (coppicerkeep_LeastFew.j1 k x2 true x244000 x244001 x244002 x244003 x244004 x245000 x245001 x245002 x245003 x245004 x254000 x254001 x254002 x254003 x254004 x263000 x263001 x263002 x263003 x263004))
def coppicerkeep_LeastFew.j1 : Nat → List Int → Bool → Int → Int → List (List Int) → Int → Int → Int → Int → List (List Int) → Int → Int → Int → Int → List (List Int) → Int → Int → Int → Int → List (List Int) → Int → Int → Option (Bool)
 | 0,_,_,_,_,_,_,_,_,_,_,_,_,_,_,_,_,_,_,_,_,_,_=>none
 | k + 1,x2,x67,x244000,x244001,x244002,x244003,x244004,x245000,x245001,x245002,x245003,x245004,x254000,x254001,x254002,x254003,x254004,x263000,x263001,x263002,x263003,x263004=>if x67 = true then (some false) else ((coppicerkeep_good.f k x244000 x244001 x244002 x244003 x244004 x2).bind fun t265=>(if t265 = true then ((machine_Run.f k x244000 x244001 x244002 x244003 x244004 x2).bind fun bt266=>((machine_Run.f k x254000 x254001 x254002 x254003 x254004 x2).bind fun bt269=>(if bt266.2.2 = 0 then (if bt269.2.2 = 0 then (if (bt266.2.1 != bt269.2.1) = true then (some false) else (coppicerkeep_LeastFew.j2 k x244000 x244001 x244002 x244003 x244004 x245000 x245001 x245002 x245003 x245004 x254000 x254001 x254002 x254003 x254004 x263000 x263001 x263002 x263003 x263004)) else (some false)) else (some false)))) else (coppicerkeep_LeastFew.j2 k x244000 x244001 x244002 x244003 x244004 x245000 x245001 x245002 x245003 x245004 x254000 x254001 x254002 x254003 x254004 x263000 x263001 x263002 x263003 x263004)))
def coppicerkeep_LeastFew.j2 : Nat → Int → Int → List (List Int) → Int → Int → Int → Int → List (List Int) → Int → Int → Int → Int → List (List Int) → Int → Int → Int → Int → List (List Int) → Int → Int → Option (Bool)
 | 0,_,_,_,_,_,_,_,_,_,_,_,_,_,_,_,_,_,_,_,_=>none
 | k + 1,x244000,x244001,x244002,x244003,x244004,x245000,x245001,x245002,x245003,x245004,x254000,x254001,x254002,x254003,x254004,x263000,x263001,x263002,x263003,x263004=>(least_Same.f k x244000 x244001 x244002 x244003 x244004 x245000 x245001 x245002 x245003 x245004).bind fun bt272=>(if x244001 = x245001 then (if bt272.2 = 0 then ((coppicerref_MachineSame.f k x254000 x254001 x254002 x254003 x254004 x263000 x263001 x263002 x263003 x263004).bind fun t274=>(some (bt272.1 == t274))) else (some false)) else (some (bt272.2 != 0)))
end
def coppicerkeep_LeastFew.f (k : Nat) (a0_0 : Int) (a0_1 : Int) (l0_2 : List (List Int)) (a0_3 : Int) (a0_4 : Int) (a1_0 : Int) (a1_1 : Int) (l1_2 : List (List Int)) (a1_3 : Int) (a1_4 : Int) (l2 : List Int) : Option (Bool):=(least_Least.f k a0_0 a0_1 l0_2 a0_3 a0_4).bind fun bt245=>((least_Least.f k a1_0 a1_1 l1_2 a1_3 a1_4).bind fun bt254=>((coppicerref_MachineCheck.f k a0_0 a0_1 l0_2 a0_3 a0_4).bind fun t263=>(if t263 = 0 then ((coppicerref_MachineCheck.f k a1_0 a1_1 l1_2 a1_3 a1_4).bind fun t264=>(coppicerkeep_LeastFew.j0 k l2 bt245.2.2.2.2.2 bt254.2.2.2.2.2 (t264 != 0) a0_0 a0_1 l0_2 a0_3 a0_4 a1_0 a1_1 l1_2 a1_3 a1_4 bt245.1 bt245.2.1 bt245.2.2.1 bt245.2.2.2.1 bt245.2.2.2.2.1 bt254.1 bt254.2.1 bt254.2.2.1 bt254.2.2.2.1 bt254.2.2.2.2.1)) else (coppicerkeep_LeastFew.j0 k l2 bt245.2.2.2.2.2 bt254.2.2.2.2.2 true a0_0 a0_1 l0_2 a0_3 a0_4 a1_0 a1_1 l1_2 a1_3 a1_4 bt245.1 bt245.2.1 bt245.2.2.1 bt245.2.2.2.1 bt245.2.2.2.2.1 bt254.1 bt254.2.1 bt254.2.2.1 bt254.2.2.2.1 bt254.2.2.2.2.1))))
theorem coppicerkeep_LeastFew.mono_l : ∀ k,(∀ y0 y1 y2 y3 y4 y5 y6 y7 y8 y9 y10 y11 y12 y13 y14 y15 y16 y17 y18 y19 y20 y21 y22 y23,LeO (coppicerkeep_LeastFew.j0 k y0 y1 y2 y3 y4 y5 y6 y7 y8 y9 y10 y11 y12 y13 y14 y15 y16 y17 y18 y19 y20 y21 y22 y23) (coppicerkeep_LeastFew.j0 (k + 1) y0 y1 y2 y3 y4 y5 y6 y7 y8 y9 y10 y11 y12 y13 y14 y15 y16 y17 y18 y19 y20 y21 y22 y23)) ∧ (∀ y0 y1 y2 y3 y4 y5 y6 y7 y8 y9 y10 y11 y12 y13 y14 y15 y16 y17 y18 y19 y20 y21,LeO (coppicerkeep_LeastFew.j1 k y0 y1 y2 y3 y4 y5 y6 y7 y8 y9 y10 y11 y12 y13 y14 y15 y16 y17 y18 y19 y20 y21) (coppicerkeep_LeastFew.j1 (k + 1) y0 y1 y2 y3 y4 y5 y6 y7 y8 y9 y10 y11 y12 y13 y14 y15 y16 y17 y18 y19 y20 y21)) ∧ (∀ y0 y1 y2 y3 y4 y5 y6 y7 y8 y9 y10 y11 y12 y13 y14 y15 y16 y17 y18 y19,LeO (coppicerkeep_LeastFew.j2 k y0 y1 y2 y3 y4 y5 y6 y7 y8 y9 y10 y11 y12 y13 y14 y15 y16 y17 y18 y19) (coppicerkeep_LeastFew.j2 (k + 1) y0 y1 y2 y3 y4 y5 y6 y7 y8 y9 y10 y11 y12 y13 y14 y15 y16 y17 y18 y19))
 | 0=>⟨fun _ _ _ _ _ _ _ _ _ _ _ _ _ _ _ _ _ _ _ _ _ _ _ _ r h=>by simp [coppicerkeep_LeastFew.j0] at h,fun _ _ _ _ _ _ _ _ _ _ _ _ _ _ _ _ _ _ _ _ _ _ r h=>by simp [coppicerkeep_LeastFew.j1] at h,fun _ _ _ _ _ _ _ _ _ _ _ _ _ _ _ _ _ _ _ _ r h=>by simp [coppicerkeep_LeastFew.j2] at h⟩
 | k + 1=>by
  obtain ⟨ih0,ih1,ih2⟩:=coppicerkeep_LeastFew.mono_l k
  refine ⟨?_,?_,?_⟩
  ·intro y0 y1 y2 y3 y4 y5 y6 y7 y8 y9 y10 y11 y12 y13 y14 y15 y16 y17 y18 y19 y20 y21 y22 y23
   unfold coppicerkeep_LeastFew.j0
   repeat' first
   | (with_reducible exact ih0 _ _ _ _ _ _ _ _ _ _ _ _ _ _ _ _ _ _ _ _ _ _ _ _)
   | (with_reducible exact ih1 _ _ _ _ _ _ _ _ _ _ _ _ _ _ _ _ _ _ _ _ _ _)
   | (with_reducible exact ih2 _ _ _ _ _ _ _ _ _ _ _ _ _ _ _ _ _ _ _ _)
   | (with_reducible exact coppicerkeep_good.mono _ _ _ _ _ _ _)
   | (with_reducible exact coppicerref_MachineCheck.mono _ _ _ _ _ _)
   | (with_reducible exact coppicerref_MachineSame.mono _ _ _ _ _ _ _ _ _ _ _)
   | (with_reducible exact least_Least.mono _ _ _ _ _ _)
   | (with_reducible exact least_Same.mono _ _ _ _ _ _ _ _ _ _ _)
   | (with_reducible exact machine_Run.mono _ _ _ _ _ _ _)
   | (with_reducible exact LeO.refl _)
   | (with_reducible exact LeO.none _)
   | (with_reducible refine LeO.ite ?_ ?_)
   | (with_reducible refine LeO.bind ?_ (fun _=>?_))
   | exact ih0 _ _ _ _ _ _ _ _ _ _ _ _ _ _ _ _ _ _ _ _ _ _ _ _
   | exact ih1 _ _ _ _ _ _ _ _ _ _ _ _ _ _ _ _ _ _ _ _ _ _
   | exact ih2 _ _ _ _ _ _ _ _ _ _ _ _ _ _ _ _ _ _ _ _
   | exact coppicerkeep_good.mono _ _ _ _ _ _ _
   | exact coppicerref_MachineCheck.mono _ _ _ _ _ _
   | exact coppicerref_MachineSame.mono _ _ _ _ _ _ _ _ _ _ _
   | exact least_Least.mono _ _ _ _ _ _
   | exact least_Same.mono _ _ _ _ _ _ _ _ _ _ _
   | exact machine_Run.mono _ _ _ _ _ _ _
   | exact LeO.none _
   | refine LeO.ite ?_ ?_
   | refine LeO.bind ?_ (fun _=>?_)
  ·intro y0 y1 y2 y3 y4 y5 y6 y7 y8 y9 y10 y11 y12 y13 y14 y15 y16 y17 y18 y19 y20 y21
   unfold coppicerkeep_LeastFew.j1
   repeat' first
   | (with_reducible exact ih0 _ _ _ _ _ _ _ _ _ _ _ _ _ _ _ _ _ _ _ _ _ _ _ _)
   | (with_reducible exact ih1 _ _ _ _ _ _ _ _ _ _ _ _ _ _ _ _ _ _ _ _ _ _)
   | (with_reducible exact ih2 _ _ _ _ _ _ _ _ _ _ _ _ _ _ _ _ _ _ _ _)
   | (with_reducible exact coppicerkeep_good.mono _ _ _ _ _ _ _)
   | (with_reducible exact coppicerref_MachineCheck.mono _ _ _ _ _ _)
   | (with_reducible exact coppicerref_MachineSame.mono _ _ _ _ _ _ _ _ _ _ _)
   | (with_reducible exact least_Least.mono _ _ _ _ _ _)
   | (with_reducible exact least_Same.mono _ _ _ _ _ _ _ _ _ _ _)
   | (with_reducible exact machine_Run.mono _ _ _ _ _ _ _)
   | (with_reducible exact LeO.refl _)
   | (with_reducible exact LeO.none _)
   | (with_reducible refine LeO.ite ?_ ?_)
   | (with_reducible refine LeO.bind ?_ (fun _=>?_))
   | exact ih0 _ _ _ _ _ _ _ _ _ _ _ _ _ _ _ _ _ _ _ _ _ _ _ _
   | exact ih1 _ _ _ _ _ _ _ _ _ _ _ _ _ _ _ _ _ _ _ _ _ _
   | exact ih2 _ _ _ _ _ _ _ _ _ _ _ _ _ _ _ _ _ _ _ _
   | exact coppicerkeep_good.mono _ _ _ _ _ _ _
   | exact coppicerref_MachineCheck.mono _ _ _ _ _ _
   | exact coppicerref_MachineSame.mono _ _ _ _ _ _ _ _ _ _ _
   | exact least_Least.mono _ _ _ _ _ _
   | exact least_Same.mono _ _ _ _ _ _ _ _ _ _ _
   | exact machine_Run.mono _ _ _ _ _ _ _
   | exact LeO.none _
   | refine LeO.ite ?_ ?_
   | refine LeO.bind ?_ (fun _=>?_)
  ·intro y0 y1 y2 y3 y4 y5 y6 y7 y8 y9 y10 y11 y12 y13 y14 y15 y16 y17 y18 y19
   unfold coppicerkeep_LeastFew.j2
   repeat' first
   | (with_reducible exact ih0 _ _ _ _ _ _ _ _ _ _ _ _ _ _ _ _ _ _ _ _ _ _ _ _)
   | (with_reducible exact ih1 _ _ _ _ _ _ _ _ _ _ _ _ _ _ _ _ _ _ _ _ _ _)
   | (with_reducible exact ih2 _ _ _ _ _ _ _ _ _ _ _ _ _ _ _ _ _ _ _ _)
   | (with_reducible exact coppicerkeep_good.mono _ _ _ _ _ _ _)
   | (with_reducible exact coppicerref_MachineCheck.mono _ _ _ _ _ _)
   | (with_reducible exact coppicerref_MachineSame.mono _ _ _ _ _ _ _ _ _ _ _)
   | (with_reducible exact least_Least.mono _ _ _ _ _ _)
   | (with_reducible exact least_Same.mono _ _ _ _ _ _ _ _ _ _ _)
   | (with_reducible exact machine_Run.mono _ _ _ _ _ _ _)
   | (with_reducible exact LeO.refl _)
   | (with_reducible exact LeO.none _)
   | (with_reducible refine LeO.ite ?_ ?_)
   | (with_reducible refine LeO.bind ?_ (fun _=>?_))
   | exact ih0 _ _ _ _ _ _ _ _ _ _ _ _ _ _ _ _ _ _ _ _ _ _ _ _
   | exact ih1 _ _ _ _ _ _ _ _ _ _ _ _ _ _ _ _ _ _ _ _ _ _
   | exact ih2 _ _ _ _ _ _ _ _ _ _ _ _ _ _ _ _ _ _ _ _
   | exact coppicerkeep_good.mono _ _ _ _ _ _ _
   | exact coppicerref_MachineCheck.mono _ _ _ _ _ _
   | exact coppicerref_MachineSame.mono _ _ _ _ _ _ _ _ _ _ _
   | exact least_Least.mono _ _ _ _ _ _
   | exact least_Same.mono _ _ _ _ _ _ _ _ _ _ _
   | exact machine_Run.mono _ _ _ _ _ _ _
   | exact LeO.none _
   | refine LeO.ite ?_ ?_
   | refine LeO.bind ?_ (fun _=>?_)
theorem coppicerkeep_LeastFew.mono : ∀ a0 a1 a2 a3 a4 a5 a6 a7 a8 a9 a10 k,LeO (coppicerkeep_LeastFew.f k a0 a1 a2 a3 a4 a5 a6 a7 a8 a9 a10) (coppicerkeep_LeastFew.f (k + 1) a0 a1 a2 a3 a4 a5 a6 a7 a8 a9 a10):=by
 intro a0 a1 a2 a3 a4 a5 a6 a7 a8 a9 a10 k
 obtain ⟨ih0,ih1,ih2⟩:=coppicerkeep_LeastFew.mono_l k
 unfold coppicerkeep_LeastFew.f
 repeat' first
   | (with_reducible exact ih0 _ _ _ _ _ _ _ _ _ _ _ _ _ _ _ _ _ _ _ _ _ _ _ _)
   | (with_reducible exact ih1 _ _ _ _ _ _ _ _ _ _ _ _ _ _ _ _ _ _ _ _ _ _)
   | (with_reducible exact ih2 _ _ _ _ _ _ _ _ _ _ _ _ _ _ _ _ _ _ _ _)
   | (with_reducible exact coppicerkeep_good.mono _ _ _ _ _ _ _)
   | (with_reducible exact coppicerref_MachineCheck.mono _ _ _ _ _ _)
   | (with_reducible exact coppicerref_MachineSame.mono _ _ _ _ _ _ _ _ _ _ _)
   | (with_reducible exact least_Least.mono _ _ _ _ _ _)
   | (with_reducible exact least_Same.mono _ _ _ _ _ _ _ _ _ _ _)
   | (with_reducible exact machine_Run.mono _ _ _ _ _ _ _)
   | (with_reducible exact LeO.refl _)
   | (with_reducible exact LeO.none _)
   | (with_reducible refine LeO.ite ?_ ?_)
   | (with_reducible refine LeO.bind ?_ (fun _=>?_))
   | exact ih0 _ _ _ _ _ _ _ _ _ _ _ _ _ _ _ _ _ _ _ _ _ _ _ _
   | exact ih1 _ _ _ _ _ _ _ _ _ _ _ _ _ _ _ _ _ _ _ _ _ _
   | exact ih2 _ _ _ _ _ _ _ _ _ _ _ _ _ _ _ _ _ _ _ _
   | exact coppicerkeep_good.mono _ _ _ _ _ _ _
   | exact coppicerref_MachineCheck.mono _ _ _ _ _ _
   | exact coppicerref_MachineSame.mono _ _ _ _ _ _ _ _ _ _ _
   | exact least_Least.mono _ _ _ _ _ _
   | exact least_Same.mono _ _ _ _ _ _ _ _ _ _ _
   | exact machine_Run.mono _ _ _ _ _ _ _
   | exact LeO.none _
   | refine LeO.ite ?_ ?_
   | refine LeO.bind ?_ (fun _=>?_)
set_option maxHeartbeats 8000000 in
set_option maxRecDepth 100000 in
theorem coppicerkeep_LeastFew.calls (k : Nat) (a0_0 : Int) (a0_1 : Int) (A0_2 : Option Addr) (c0_2 : Nat) (l0_2 : List (List Int)) (a0_3 : Int) (a0_4 : Int) (a1_0 : Int) (a1_1 : Int) (A1_2 : Option Addr) (c1_2 : Nat) (l1_2 : List (List Int)) (a1_3 : Int) (a1_4 : Int) (A2 : Option Addr) (c2 : Nat) (l2 : List Int) (r : Bool) (w : World) (hr0_2 : Kd.C (Kd.slice 3 (Kd.int .i64)) w A0_2 l0_2.length l0_2) (hc0_2 : l0_2.length ≤ c0_2) (hr1_2 : Kd.C (Kd.slice 3 (Kd.int .i64)) w A1_2 l1_2.length l1_2) (hc1_2 : l1_2.length ≤ c1_2) (hr2 : Kd.C (Kd.int .i64) w A2 l2.length l2) (hc2 : l2.length ≤ c2) (h : coppicerkeep_LeastFew.f k a0_0 a0_1 l0_2 a0_3 a0_4 a1_0 a1_1 l1_2 a1_3 a1_4 l2 = some r) :
  Calls Try.prog 13 #[.agg #[.int .i64 a0_0,.int .i64 a0_1,.slice A0_2 l0_2.length c0_2,.int .i64 a0_3,.int .u32 a0_4],.agg #[.int .i64 a1_0,.int .i64 a1_1,.slice A1_2 l1_2.length c1_2,.int .i64 a1_3,.int .u32 a1_4],.slice A2 l2.length c2] w fun e w'=>e = .returned (.bool r) ∧ Below w.heap.size w w':=by
 have hu37:=Try.underlying37
 have HR0_2:=Aside0.mk hr0_2
 have HC0_2:=Aside0.mk hc0_2
 clear hr0_2 hc0_2
 have HR1_2:=Aside0.mk hr1_2
 have HC1_2:=Aside0.mk hc1_2
 clear hr1_2 hc1_2
 have HR2:=Aside0.mk hr2
 have HC2:=Aside0.mk hc2
 clear hr2 hc2
 have HB:=Aside0.mk (Below.refl w.heap.size w)
 have H : ((least_Least.f k a0_0 a0_1 l0_2 a0_3 a0_4).bind fun bt245=>((least_Least.f k a1_0 a1_1 l1_2 a1_3 a1_4).bind fun bt254=>((coppicerref_MachineCheck.f k a0_0 a0_1 l0_2 a0_3 a0_4).bind fun t263=>(if t263 = 0 then ((coppicerref_MachineCheck.f k a1_0 a1_1 l1_2 a1_3 a1_4).bind fun t264=>(coppicerkeep_LeastFew.j0 k l2 bt245.2.2.2.2.2 bt254.2.2.2.2.2 (t264 != 0) a0_0 a0_1 l0_2 a0_3 a0_4 a1_0 a1_1 l1_2 a1_3 a1_4 bt245.1 bt245.2.1 bt245.2.2.1 bt245.2.2.2.1 bt245.2.2.2.2.1 bt254.1 bt254.2.1 bt254.2.2.1 bt254.2.2.2.1 bt254.2.2.2.2.1)) else (coppicerkeep_LeastFew.j0 k l2 bt245.2.2.2.2.2 bt254.2.2.2.2.2 true a0_0 a0_1 l0_2 a0_3 a0_4 a1_0 a1_1 l1_2 a1_3 a1_4 bt245.1 bt245.2.1 bt245.2.2.1 bt245.2.2.2.1 bt245.2.2.2.2.1 bt254.1 bt254.2.1 bt254.2.2.1 bt254.2.2.2.1 bt254.2.2.2.2.1))))) = some r:=h
 clear h
 replace H:=Option.bind_eq_some_iff.mp H
 obtain ⟨⟨t245,t246,t247,t250,t251,t252⟩,A40,H⟩:=H
 replace H : ((least_Least.f k a1_0 a1_1 l1_2 a1_3 a1_4).bind fun bt254=>((coppicerref_MachineCheck.f k a0_0 a0_1 l0_2 a0_3 a0_4).bind fun t263=>(if t263 = 0 then ((coppicerref_MachineCheck.f k a1_0 a1_1 l1_2 a1_3 a1_4).bind fun t264=>(coppicerkeep_LeastFew.j0 k l2 t252 bt254.2.2.2.2.2 (t264 != 0) a0_0 a0_1 l0_2 a0_3 a0_4 a1_0 a1_1 l1_2 a1_3 a1_4 t245 t246 t247 t250 t251 bt254.1 bt254.2.1 bt254.2.2.1 bt254.2.2.2.1 bt254.2.2.2.2.1)) else (coppicerkeep_LeastFew.j0 k l2 t252 bt254.2.2.2.2.2 true a0_0 a0_1 l0_2 a0_3 a0_4 a1_0 a1_1 l1_2 a1_3 a1_4 t245 t246 t247 t250 t251 bt254.1 bt254.2.1 bt254.2.2.1 bt254.2.2.2.1 bt254.2.2.2.2.1)))) = some r:=H
 have A4:=Aside0.mk A40
 clear A40
 replace H:=Option.bind_eq_some_iff.mp H
 obtain ⟨⟨t254,t255,t256,t259,t260,t261⟩,A50,H⟩:=H
 replace H : ((coppicerref_MachineCheck.f k a0_0 a0_1 l0_2 a0_3 a0_4).bind fun t263=>(if t263 = 0 then ((coppicerref_MachineCheck.f k a1_0 a1_1 l1_2 a1_3 a1_4).bind fun t264=>(coppicerkeep_LeastFew.j0 k l2 t252 t261 (t264 != 0) a0_0 a0_1 l0_2 a0_3 a0_4 a1_0 a1_1 l1_2 a1_3 a1_4 t245 t246 t247 t250 t251 t254 t255 t256 t259 t260)) else (coppicerkeep_LeastFew.j0 k l2 t252 t261 true a0_0 a0_1 l0_2 a0_3 a0_4 a1_0 a1_1 l1_2 a1_3 a1_4 t245 t246 t247 t250 t251 t254 t255 t256 t259 t260))) = some r:=H
 have A5:=Aside0.mk A50
 clear A50
 have HC6:=Aside0.mk H
 clear H
 go_enter Try.func13,Try.ntmps13
 go_upto_region 3 with (first|((with_reducible refine gate_dst (N:=3) rfl ?_);refine box_event ?hg (N:=3) ?hd (cs:=#[.int .i64 a0_0,.int .i64 a0_1,.slice A0_2 l0_2.length c0_2,.int .i64 a0_3,.int .u32 a0_4]) (t:=37) ?hr ?_;(case hd=>rfl);(case hg=>rfl);(case hr=>first|(go_simp;done)|(go_simp;rfl));intro gb243 hg w7 hbox hb;have n0_:=Aside0.mk (below_step (by repeat (first|(with_reducible first|exact HB.out|apply below_alloc|apply pw_below_drewN|apply below_drew1)|exact HB.out)) hb);have n1_:=Aside0.mk (hbox);have n2_:=Aside0.mk ((by rw [hg];exact (below_size (by repeat (first|(with_reducible first|exact HB.out|apply below_alloc|apply pw_below_drewN|apply below_drew1)|exact HB.out))) : w.heap.size ≤ gb243));have n3_:=Aside0.mk ((by rw [hg];exact (below_size (by repeat (first|(with_reducible first|exact HB.out|apply below_alloc|apply pw_below_drewN|apply below_drew1)|exact HB.out))) : w.heap.size ≤ gb243));clear HB;have HB:=n0_;have BK243:=n1_;have GW243:=n2_;have GE243:=n3_;clear n0_ n1_ n2_ n3_;clear hb hbox hg)|((with_reducible refine gate_dst (N:=4) rfl ?_);refine box_event ?hg (N:=4) ?hd (cs:=#[.int .i64 a1_0,.int .i64 a1_1,.slice A1_2 l1_2.length c1_2,.int .i64 a1_3,.int .u32 a1_4]) (t:=37) ?hr ?_;(case hd=>rfl);(case hg=>rfl);(case hr=>first|(go_simp;done)|(go_simp;rfl));intro gb244 hg w8 hbox hb;have n0_:=Aside0.mk (blk_below (g:=gb243) (o:=.cells #[.int .i64 a0_0,.int .i64 a0_1,.slice A0_2 l0_2.length c0_2,.int .i64 a0_3,.int .u32 a0_4] 37 (0,0)) (by (with_reducible repeat (first|refine blk_drewN ?_ _|refine blk_drew ?_|refine blk_alloc ?_ _));exact BK243.out) hb);have n1_:=Aside0.mk (below_step (by repeat (first|(with_reducible first|exact HB.out|apply below_alloc|apply pw_below_drewN|apply below_drew1|refine below_set ?_ GE243.out)|exact HB.out)) hb);have n2_:=Aside0.mk (hbox);have n3_:=Aside0.mk ((by rw [hg];exact (below_size (by repeat (first|(with_reducible first|exact HB.out|apply below_alloc|apply pw_below_drewN|apply below_drew1|refine below_set ?_ GE243.out)|exact HB.out))) : w.heap.size ≤ gb244));have n4_:=Aside0.mk ((by rw [hg];exact (below_size (by repeat (first|(with_reducible first|exact HB.out|apply below_alloc|apply pw_below_drewN|apply below_drew1|refine below_set ?_ GE243.out)|exact HB.out))) : w.heap.size ≤ gb244));have n5_:=Aside0.mk ((by rw [hg];exact Nat.ne_of_lt (blk_lt (g:=gb243) (o:=.cells #[.int .i64 a0_0,.int .i64 a0_1,.slice A0_2 l0_2.length c0_2,.int .i64 a0_3,.int .u32 a0_4] 37 (0,0)) (by (with_reducible repeat (first|refine blk_drewN ?_ _|refine blk_drew ?_|refine blk_alloc ?_ _));exact BK243.out)) : gb243 ≠ gb244));have n6_:=Aside0.mk ((by rw [hg];exact Nat.ne_of_gt (blk_lt (g:=gb243) (o:=.cells #[.int .i64 a0_0,.int .i64 a0_1,.slice A0_2 l0_2.length c0_2,.int .i64 a0_3,.int .u32 a0_4] 37 (0,0)) (by (with_reducible repeat (first|refine blk_drewN ?_ _|refine blk_drew ?_|refine blk_alloc ?_ _));exact BK243.out)) : gb244 ≠ gb243));clear BK243;clear HB;have BK243:=n0_;have HB:=n1_;have BK244:=n2_;have GW244:=n3_;have GE244:=n4_;have NB243_244:=n5_;have NB244_243:=n6_;clear n0_ n1_ n2_ n3_ n4_ n5_ n6_;clear hb hbox hg;have hnb9:=NB243_244.out;have hnc9:=NB244_243.out;have hcz10_0 : w8.cell? ⟨gb243,0,none⟩ = some (.int .i64 a0_0):=(blk_cell BK243.out 0).trans rfl;have hcz10_1 : w8.cell? ⟨gb243,1,none⟩ = some (.int .i64 a0_1):=(blk_cell BK243.out 1).trans rfl;have hcz10_2 : w8.cell? ⟨gb243,2,none⟩ = some (.slice A0_2 l0_2.length c0_2):=(blk_cell BK243.out 2).trans rfl;have hcz10_3 : w8.cell? ⟨gb243,3,none⟩ = some (.int .i64 a0_3):=(blk_cell BK243.out 3).trans rfl;have hcz10_4 : w8.cell? ⟨gb243,4,none⟩ = some (.int .u32 a0_4):=(blk_cell BK243.out 4).trans rfl;have hfz10_0:=blk_frozen BK243.out 0;have hfz10_1:=blk_frozen BK243.out 1;have hfz10_2:=blk_frozen BK243.out 2;have hfz10_3:=blk_frozen BK243.out 3;have hfz10_4:=blk_frozen BK243.out 4)|((with_reducible refine gate_callee (f:=36) rfl ?_);refine goesL_ (some 21) rfl rfl Try.func36 (by kernel_rfl) rfl #[.agg #[.int .i64 a0_0,.int .i64 a0_1,.slice A0_2 l0_2.length c0_2,.int .i64 a0_3,.int .u32 a0_4]] rfl (by (try simp only [List.map_toArray,List.map_cons,List.map_nil]);first|done|rfl|(simp only [List.length_drop,List.length_take];rfl)) ?_;(with_reducible refine (least_Least.calls k a0_0 a0_1 _ _ l0_2 a0_3 a0_4 t245 t246 t247 t250 t251 t252 _ ?side1 ?side2 A4.out).mono ?_);(case side1=>repeat (first|exact (Kd.C_below HR0_2.out HB.out)|(with_reducible refine Kd.C_alloc ?_ _)|(with_reducible refine Kd.C_drewN ?_ _)|(with_reducible refine Kd.C_drew ?_)));(case side2=>exact HC0_2.out);rintro e w11 ⟨v248,rfl,ho0,hb⟩;refine ⟨_,rfl,?_⟩;have n0_:=Aside0.mk (Kd.S_lower ho0 (below_size (by repeat (first|(with_reducible first|exact HB.out|apply below_alloc|apply pw_below_drewN|apply below_drew1|refine below_set ?_ GE243.out|refine below_set ?_ GE244.out)|exact HB.out))));have n1_:=Aside0.mk (blk_below (g:=gb243) (o:=.cells #[.int .i64 a0_0,.int .i64 a0_1,.slice A0_2 l0_2.length c0_2,.int .i64 a0_3,.int .u32 a0_4] 37 (0,0)) (by (with_reducible repeat (first|refine blk_drewN ?_ _|refine blk_drew ?_|refine blk_alloc ?_ _));exact BK243.out) hb);have n2_:=Aside0.mk (blk_below (g:=gb244) (o:=.cells #[.int .i64 a1_0,.int .i64 a1_1,.slice A1_2 l1_2.length c1_2,.int .i64 a1_3,.int .u32 a1_4] 37 (0,0)) (by (with_reducible repeat (first|refine blk_drewN ?_ _|refine blk_drew ?_|refine blk_alloc ?_ _));exact BK244.out) hb);have n3_:=Aside0.mk (below_step (by repeat (first|(with_reducible first|exact HB.out|apply below_alloc|apply pw_below_drewN|apply below_drew1|refine below_set ?_ GE243.out|refine below_set ?_ GE244.out)|exact HB.out)) hb);clear BK243;clear BK244;clear HB;have HO249:=n0_;have BK243:=n1_;have BK244:=n2_;have HB:=n3_;clear n0_ n1_ n2_ n3_;(try clear hb);(try clear hb2);(try clear hk);(try clear hi);(try clear ho0))|((with_reducible refine gate_dst (N:=7) rfl ?_);refine box_event ?hg (N:=7) ?hd (cs:=#[.int .i64 0,.int .i64 0,.slice none 0 0,.int .i64 0,.int .u32 0]) (t:=37) ?hr ?_;(case hd=>rfl);(case hg=>rfl);(case hr=>first|(go_simp;done)|(go_simp;rfl));intro gb253 hg w12 hbox hb;have n0_:=Aside0.mk (Kd.S_below (by (with_reducible repeat (first|apply Kd.S_alloc|apply Kd.S_drewN|apply Kd.S_drew));exact HO249.out) hb);have n1_:=Aside0.mk (blk_below (g:=gb243) (o:=.cells #[.int .i64 a0_0,.int .i64 a0_1,.slice A0_2 l0_2.length c0_2,.int .i64 a0_3,.int .u32 a0_4] 37 (0,0)) (by (with_reducible repeat (first|refine blk_drewN ?_ _|refine blk_drew ?_|refine blk_alloc ?_ _));exact BK243.out) hb);have n2_:=Aside0.mk (blk_below (g:=gb244) (o:=.cells #[.int .i64 a1_0,.int .i64 a1_1,.slice A1_2 l1_2.length c1_2,.int .i64 a1_3,.int .u32 a1_4] 37 (0,0)) (by (with_reducible repeat (first|refine blk_drewN ?_ _|refine blk_drew ?_|refine blk_alloc ?_ _));exact BK244.out) hb);have n3_:=Aside0.mk (below_step (by repeat (first|(with_reducible first|exact HB.out|apply below_alloc|apply pw_below_drewN|apply below_drew1|refine below_set ?_ GE243.out|refine below_set ?_ GE244.out)|exact HB.out)) hb);have n4_:=Aside0.mk (hbox);have n5_:=Aside0.mk ((by rw [hg];exact (below_size (by repeat (first|(with_reducible first|exact HB.out|apply below_alloc|apply pw_below_drewN|apply below_drew1|refine below_set ?_ GE243.out|refine below_set ?_ GE244.out)|exact HB.out))) : w.heap.size ≤ gb253));have n6_:=Aside0.mk ((by rw [hg];exact (below_size (by repeat (first|(with_reducible first|exact HB.out|apply below_alloc|apply pw_below_drewN|apply below_drew1|refine below_set ?_ GE243.out|refine below_set ?_ GE244.out)|exact HB.out))) : w.heap.size ≤ gb253));have n7_:=Aside0.mk ((by rw [hg];exact Nat.ne_of_lt (blk_lt (g:=gb243) (o:=.cells #[.int .i64 a0_0,.int .i64 a0_1,.slice A0_2 l0_2.length c0_2,.int .i64 a0_3,.int .u32 a0_4] 37 (0,0)) (by (with_reducible repeat (first|refine blk_drewN ?_ _|refine blk_drew ?_|refine blk_alloc ?_ _));exact BK243.out)) : gb243 ≠ gb253));have n8_:=Aside0.mk ((by rw [hg];exact Nat.ne_of_gt (blk_lt (g:=gb243) (o:=.cells #[.int .i64 a0_0,.int .i64 a0_1,.slice A0_2 l0_2.length c0_2,.int .i64 a0_3,.int .u32 a0_4] 37 (0,0)) (by (with_reducible repeat (first|refine blk_drewN ?_ _|refine blk_drew ?_|refine blk_alloc ?_ _));exact BK243.out)) : gb253 ≠ gb243));have n9_:=Aside0.mk ((by rw [hg];exact Nat.ne_of_lt (blk_lt (g:=gb244) (o:=.cells #[.int .i64 a1_0,.int .i64 a1_1,.slice A1_2 l1_2.length c1_2,.int .i64 a1_3,.int .u32 a1_4] 37 (0,0)) (by (with_reducible repeat (first|refine blk_drewN ?_ _|refine blk_drew ?_|refine blk_alloc ?_ _));exact BK244.out)) : gb244 ≠ gb253));have n10_:=Aside0.mk ((by rw [hg];exact Nat.ne_of_gt (blk_lt (g:=gb244) (o:=.cells #[.int .i64 a1_0,.int .i64 a1_1,.slice A1_2 l1_2.length c1_2,.int .i64 a1_3,.int .u32 a1_4] 37 (0,0)) (by (with_reducible repeat (first|refine blk_drewN ?_ _|refine blk_drew ?_|refine blk_alloc ?_ _));exact BK244.out)) : gb253 ≠ gb244));clear HO249;clear BK243;clear BK244;clear HB;have HO249:=n0_;have BK243:=n1_;have BK244:=n2_;have HB:=n3_;have BK253:=n4_;have GW253:=n5_;have GE253:=n6_;have NB243_253:=n7_;have NB253_243:=n8_;have NB244_253:=n9_;have NB253_244:=n10_;clear n0_ n1_ n2_ n3_ n4_ n5_ n6_ n7_ n8_ n9_ n10_;clear hb hbox hg;have hnb13:=NB253_243.out;have hnc13:=NB243_253.out;have hnb14:=NB253_244.out;have hnc14:=NB244_253.out;have hcz15_0 : w12.cell? ⟨gb253,0,none⟩ = some (.int .i64 0):=(blk_cell BK253.out 0).trans rfl;have hcz15_1 : w12.cell? ⟨gb253,1,none⟩ = some (.int .i64 0):=(blk_cell BK253.out 1).trans rfl;have hcz15_2 : w12.cell? ⟨gb253,2,none⟩ = some (.slice none 0 0):=(blk_cell BK253.out 2).trans rfl;have hcz15_3 : w12.cell? ⟨gb253,3,none⟩ = some (.int .i64 0):=(blk_cell BK253.out 3).trans rfl;have hcz15_4 : w12.cell? ⟨gb253,4,none⟩ = some (.int .u32 0):=(blk_cell BK253.out 4).trans rfl;have hfz15_0:=blk_frozen BK253.out 0;have hfz15_1:=blk_frozen BK253.out 1;have hfz15_2:=blk_frozen BK253.out 2;have hfz15_3:=blk_frozen BK253.out 3;have hfz15_4:=blk_frozen BK253.out 4;obtain ⟨Ao16,co16,eo16⟩:=Kd.S_slice HO249.out;subst eo16;have hcz17_0 : w12.cell? ⟨gb244,0,none⟩ = some (.int .i64 a1_0):=(blk_cell BK244.out 0).trans rfl;have hcz17_1 : w12.cell? ⟨gb244,1,none⟩ = some (.int .i64 a1_1):=(blk_cell BK244.out 1).trans rfl;have hcz17_2 : w12.cell? ⟨gb244,2,none⟩ = some (.slice A1_2 l1_2.length c1_2):=(blk_cell BK244.out 2).trans rfl;have hcz17_3 : w12.cell? ⟨gb244,3,none⟩ = some (.int .i64 a1_3):=(blk_cell BK244.out 3).trans rfl;have hcz17_4 : w12.cell? ⟨gb244,4,none⟩ = some (.int .u32 a1_4):=(blk_cell BK244.out 4).trans rfl;have hfz17_0:=blk_frozen BK244.out 0;have hfz17_1:=blk_frozen BK244.out 1;have hfz17_2:=blk_frozen BK244.out 2;have hfz17_3:=blk_frozen BK244.out 3;have hfz17_4:=blk_frozen BK244.out 4)|((with_reducible refine gate_callee (f:=36) rfl ?_);refine goesL_ (some 26) rfl rfl Try.func36 (by kernel_rfl) rfl #[.agg #[.int .i64 a1_0,.int .i64 a1_1,.slice A1_2 l1_2.length c1_2,.int .i64 a1_3,.int .u32 a1_4]] rfl (by (try simp only [List.map_toArray,List.map_cons,List.map_nil]);first|done|rfl|(simp only [List.length_drop,List.length_take];rfl)) ?_;(with_reducible refine (least_Least.calls k a1_0 a1_1 _ _ l1_2 a1_3 a1_4 t254 t255 t256 t259 t260 t261 _ ?side1 ?side2 A5.out).mono ?_);(case side1=>exact Kd.C_below HR1_2.out (by repeat (first|(with_reducible first|exact HB.out|apply below_alloc|apply pw_below_drewN|apply below_drew1|refine below_set ?_ GE243.out|refine below_set ?_ GE244.out|refine below_set ?_ GE253.out)|exact HB.out)));(case side2=>exact HC1_2.out);rintro e w18 ⟨v257,rfl,ho0,hb⟩;refine ⟨_,rfl,?_⟩;have n0_:=Aside0.mk (Kd.S_elder' (by (with_reducible repeat (first|apply Kd.S_alloc|apply Kd.S_drewN|apply Kd.S_drew));exact (Kd.S_mono (Kd.S_far (p:=⟨gb253,4,none⟩) (Kd.S_far (p:=⟨gb253,3,none⟩) (Kd.S_far (p:=⟨gb253,2,none⟩) (Kd.S_far (p:=⟨gb253,1,none⟩) (Kd.S_far (p:=⟨gb253,0,none⟩) (Kd.S_types HO249.out BK253.out (by decide)) (fun _ hk=>hk.2) (.int .i64 t245)) (fun _ hk=>hk.2) (.int .i64 t246)) (fun _ hk=>hk.2) (.slice Ao16 t247.length co16)) (fun _ hk=>hk.2) (.int .i64 t250)) (fun _ hk=>hk.2) (.int .u32 t251)) (fun _ h_=>h_.1))) (Kd.S_base ho0) hb);have n1_:=Aside0.mk (Kd.S_lower (Kd.S_new' ho0 (Kd.S_lt (by (with_reducible repeat (first|apply Kd.S_alloc|apply Kd.S_drewN|apply Kd.S_drew));exact (Kd.S_mono (Kd.S_far (p:=⟨gb253,4,none⟩) (Kd.S_far (p:=⟨gb253,3,none⟩) (Kd.S_far (p:=⟨gb253,2,none⟩) (Kd.S_far (p:=⟨gb253,1,none⟩) (Kd.S_far (p:=⟨gb253,0,none⟩) (Kd.S_types HO249.out BK253.out (by decide)) (fun _ hk=>hk.2) (.int .i64 t245)) (fun _ hk=>hk.2) (.int .i64 t246)) (fun _ hk=>hk.2) (.slice Ao16 t247.length co16)) (fun _ hk=>hk.2) (.int .i64 t250)) (fun _ hk=>hk.2) (.int .u32 t251)) (fun _ h_=>h_.1))))) (below_size (by repeat (first|(with_reducible first|exact HB.out|apply below_alloc|apply pw_below_drewN|apply below_drew1|refine below_set ?_ GE243.out|refine below_set ?_ GE244.out|refine below_set ?_ GE253.out)|exact HB.out))));have n2_:=Aside0.mk (blk_below (g:=gb243) (o:=.cells #[.int .i64 a0_0,.int .i64 a0_1,.slice A0_2 l0_2.length c0_2,.int .i64 a0_3,.int .u32 a0_4] 37 (0,0)) (by (with_reducible repeat (first|refine blk_drewN ?_ _|refine blk_drew ?_|refine blk_alloc ?_ _));refine blk_far ?_ NB243_253.out _;(with_reducible repeat (first|refine blk_drewN ?_ _|refine blk_drew ?_|refine blk_alloc ?_ _));refine blk_far ?_ NB243_253.out _;(with_reducible repeat (first|refine blk_drewN ?_ _|refine blk_drew ?_|refine blk_alloc ?_ _));refine blk_far ?_ NB243_253.out _;(with_reducible repeat (first|refine blk_drewN ?_ _|refine blk_drew ?_|refine blk_alloc ?_ _));refine blk_far ?_ NB243_253.out _;(with_reducible repeat (first|refine blk_drewN ?_ _|refine blk_drew ?_|refine blk_alloc ?_ _));refine blk_far ?_ NB243_253.out _;(with_reducible repeat (first|refine blk_drewN ?_ _|refine blk_drew ?_|refine blk_alloc ?_ _));exact BK243.out) hb);have n3_:=Aside0.mk (blk_below (g:=gb244) (o:=.cells #[.int .i64 a1_0,.int .i64 a1_1,.slice A1_2 l1_2.length c1_2,.int .i64 a1_3,.int .u32 a1_4] 37 (0,0)) (by (with_reducible repeat (first|refine blk_drewN ?_ _|refine blk_drew ?_|refine blk_alloc ?_ _));refine blk_far ?_ NB244_253.out _;(with_reducible repeat (first|refine blk_drewN ?_ _|refine blk_drew ?_|refine blk_alloc ?_ _));refine blk_far ?_ NB244_253.out _;(with_reducible repeat (first|refine blk_drewN ?_ _|refine blk_drew ?_|refine blk_alloc ?_ _));refine blk_far ?_ NB244_253.out _;(with_reducible repeat (first|refine blk_drewN ?_ _|refine blk_drew ?_|refine blk_alloc ?_ _));refine blk_far ?_ NB244_253.out _;(with_reducible repeat (first|refine blk_drewN ?_ _|refine blk_drew ?_|refine blk_alloc ?_ _));refine blk_far ?_ NB244_253.out _;(with_reducible repeat (first|refine blk_drewN ?_ _|refine blk_drew ?_|refine blk_alloc ?_ _));exact BK244.out) hb);have n4_:=Aside0.mk (blk_below (g:=gb253) (o:=.cells #[.int .i64 t245,.int .i64 t246,.slice Ao16 t247.length co16,.int .i64 t250,.int .u32 t251] 37 (0,0)) (by (with_reducible repeat (first|refine blk_drewN ?_ _|refine blk_drew ?_|refine blk_alloc ?_ _));refine blk_put (cs:=#[.int .i64 t245,.int .i64 t246,.slice Ao16 t247.length co16,.int .i64 t250,.int .u32 0]) ?_ 4 _ rfl;(with_reducible repeat (first|refine blk_drewN ?_ _|refine blk_drew ?_|refine blk_alloc ?_ _));refine blk_put (cs:=#[.int .i64 t245,.int .i64 t246,.slice Ao16 t247.length co16,.int .i64 0,.int .u32 0]) ?_ 3 _ rfl;(with_reducible repeat (first|refine blk_drewN ?_ _|refine blk_drew ?_|refine blk_alloc ?_ _));refine blk_put (cs:=#[.int .i64 t245,.int .i64 t246,.slice none 0 0,.int .i64 0,.int .u32 0]) ?_ 2 _ rfl;(with_reducible repeat (first|refine blk_drewN ?_ _|refine blk_drew ?_|refine blk_alloc ?_ _));refine blk_put (cs:=#[.int .i64 t245,.int .i64 0,.slice none 0 0,.int .i64 0,.int .u32 0]) ?_ 1 _ rfl;(with_reducible repeat (first|refine blk_drewN ?_ _|refine blk_drew ?_|refine blk_alloc ?_ _));refine blk_put (cs:=#[.int .i64 0,.int .i64 0,.slice none 0 0,.int .i64 0,.int .u32 0]) ?_ 0 _ rfl;(with_reducible repeat (first|refine blk_drewN ?_ _|refine blk_drew ?_|refine blk_alloc ?_ _));exact BK253.out) hb);have n5_:=Aside0.mk (below_step (by repeat (first|(with_reducible first|exact HB.out|apply below_alloc|apply pw_below_drewN|apply below_drew1|refine below_set ?_ GE243.out|refine below_set ?_ GE244.out|refine below_set ?_ GE253.out)|exact HB.out)) hb);clear HO249;clear BK243;clear BK244;clear BK253;clear HB;have HO249:=n0_;have HO258:=n1_;have BK243:=n2_;have BK244:=n3_;have BK253:=n4_;have HB:=n5_;clear n0_ n1_ n2_ n3_ n4_ n5_;(try clear hb);(try clear hb2);(try clear hk);(try clear hi);(try clear ho0))|((with_reducible refine gate_dst (N:=9) rfl ?_);refine box_event ?hg (N:=9) ?hd (cs:=#[.int .i64 0,.int .i64 0,.slice none 0 0,.int .i64 0,.int .u32 0]) (t:=37) ?hr ?_;(case hd=>rfl);(case hg=>rfl);(case hr=>first|(go_simp;done)|(go_simp;rfl));intro gb262 hg w19 hbox hb;have n0_:=Aside0.mk (Kd.S_below (by (with_reducible repeat (first|apply Kd.S_alloc|apply Kd.S_drewN|apply Kd.S_drew));exact HO249.out) hb);have n1_:=Aside0.mk (Kd.S_below (by (with_reducible repeat (first|apply Kd.S_alloc|apply Kd.S_drewN|apply Kd.S_drew));exact HO258.out) hb);have n2_:=Aside0.mk (blk_below (g:=gb243) (o:=.cells #[.int .i64 a0_0,.int .i64 a0_1,.slice A0_2 l0_2.length c0_2,.int .i64 a0_3,.int .u32 a0_4] 37 (0,0)) (by (with_reducible repeat (first|refine blk_drewN ?_ _|refine blk_drew ?_|refine blk_alloc ?_ _));exact BK243.out) hb);have n3_:=Aside0.mk (blk_below (g:=gb244) (o:=.cells #[.int .i64 a1_0,.int .i64 a1_1,.slice A1_2 l1_2.length c1_2,.int .i64 a1_3,.int .u32 a1_4] 37 (0,0)) (by (with_reducible repeat (first|refine blk_drewN ?_ _|refine blk_drew ?_|refine blk_alloc ?_ _));exact BK244.out) hb);have n4_:=Aside0.mk (blk_below (g:=gb253) (o:=.cells #[.int .i64 t245,.int .i64 t246,.slice Ao16 t247.length co16,.int .i64 t250,.int .u32 t251] 37 (0,0)) (by (with_reducible repeat (first|refine blk_drewN ?_ _|refine blk_drew ?_|refine blk_alloc ?_ _));exact BK253.out) hb);have n5_:=Aside0.mk (below_step (by repeat (first|(with_reducible first|exact HB.out|apply below_alloc|apply pw_below_drewN|apply below_drew1|refine below_set ?_ GE243.out|refine below_set ?_ GE244.out|refine below_set ?_ GE253.out)|exact HB.out)) hb);have n6_:=Aside0.mk (hbox);have n7_:=Aside0.mk ((by rw [hg];exact (below_size (by repeat (first|(with_reducible first|exact HB.out|apply below_alloc|apply pw_below_drewN|apply below_drew1|refine below_set ?_ GE243.out|refine below_set ?_ GE244.out|refine below_set ?_ GE253.out)|exact HB.out))) : w.heap.size ≤ gb262));have n8_:=Aside0.mk ((by rw [hg];exact (below_size (by repeat (first|(with_reducible first|exact HB.out|apply below_alloc|apply pw_below_drewN|apply below_drew1|refine below_set ?_ GE243.out|refine below_set ?_ GE244.out|refine below_set ?_ GE253.out)|exact HB.out))) : w.heap.size ≤ gb262));have n9_:=Aside0.mk ((by rw [hg];exact Nat.ne_of_lt (blk_lt (g:=gb243) (o:=.cells #[.int .i64 a0_0,.int .i64 a0_1,.slice A0_2 l0_2.length c0_2,.int .i64 a0_3,.int .u32 a0_4] 37 (0,0)) (by (with_reducible repeat (first|refine blk_drewN ?_ _|refine blk_drew ?_|refine blk_alloc ?_ _));exact BK243.out)) : gb243 ≠ gb262));have n10_:=Aside0.mk ((by rw [hg];exact Nat.ne_of_gt (blk_lt (g:=gb243) (o:=.cells #[.int .i64 a0_0,.int .i64 a0_1,.slice A0_2 l0_2.length c0_2,.int .i64 a0_3,.int .u32 a0_4] 37 (0,0)) (by (with_reducible repeat (first|refine blk_drewN ?_ _|refine blk_drew ?_|refine blk_alloc ?_ _));exact BK243.out)) : gb262 ≠ gb243));have n11_:=Aside0.mk ((by rw [hg];exact Nat.ne_of_lt (blk_lt (g:=gb244) (o:=.cells #[.int .i64 a1_0,.int .i64 a1_1,.slice A1_2 l1_2.length c1_2,.int .i64 a1_3,.int .u32 a1_4] 37 (0,0)) (by (with_reducible repeat (first|refine blk_drewN ?_ _|refine blk_drew ?_|refine blk_alloc ?_ _));exact BK244.out)) : gb244 ≠ gb262));have n12_:=Aside0.mk ((by rw [hg];exact Nat.ne_of_gt (blk_lt (g:=gb244) (o:=.cells #[.int .i64 a1_0,.int .i64 a1_1,.slice A1_2 l1_2.length c1_2,.int .i64 a1_3,.int .u32 a1_4] 37 (0,0)) (by (with_reducible repeat (first|refine blk_drewN ?_ _|refine blk_drew ?_|refine blk_alloc ?_ _));exact BK244.out)) : gb262 ≠ gb244));have n13_:=Aside0.mk ((by rw [hg];exact Nat.ne_of_lt (blk_lt (g:=gb253) (o:=.cells #[.int .i64 t245,.int .i64 t246,.slice Ao16 t247.length co16,.int .i64 t250,.int .u32 t251] 37 (0,0)) (by (with_reducible repeat (first|refine blk_drewN ?_ _|refine blk_drew ?_|refine blk_alloc ?_ _));exact BK253.out)) : gb253 ≠ gb262));have n14_:=Aside0.mk ((by rw [hg];exact Nat.ne_of_gt (blk_lt (g:=gb253) (o:=.cells #[.int .i64 t245,.int .i64 t246,.slice Ao16 t247.length co16,.int .i64 t250,.int .u32 t251] 37 (0,0)) (by (with_reducible repeat (first|refine blk_drewN ?_ _|refine blk_drew ?_|refine blk_alloc ?_ _));exact BK253.out)) : gb262 ≠ gb253));clear HO249;clear HO258;clear BK243;clear BK244;clear BK253;clear HB;have HO249:=n0_;have HO258:=n1_;have BK243:=n2_;have BK244:=n3_;have BK253:=n4_;have HB:=n5_;have BK262:=n6_;have GW262:=n7_;have GE262:=n8_;have NB243_262:=n9_;have NB262_243:=n10_;have NB244_262:=n11_;have NB262_244:=n12_;have NB253_262:=n13_;have NB262_253:=n14_;clear n0_ n1_ n2_ n3_ n4_ n5_ n6_ n7_ n8_ n9_ n10_ n11_ n12_ n13_ n14_;clear hb hbox hg;have hnb20:=NB262_243.out;have hnc20:=NB243_262.out;have hnb21:=NB262_244.out;have hnc21:=NB244_262.out;have hnb22:=NB262_253.out;have hnc22:=NB253_262.out;have hcz23_0 : w19.cell? ⟨gb262,0,none⟩ = some (.int .i64 0):=(blk_cell BK262.out 0).trans rfl;have hcz23_1 : w19.cell? ⟨gb262,1,none⟩ = some (.int .i64 0):=(blk_cell BK262.out 1).trans rfl;have hcz23_2 : w19.cell? ⟨gb262,2,none⟩ = some (.slice none 0 0):=(blk_cell BK262.out 2).trans rfl;have hcz23_3 : w19.cell? ⟨gb262,3,none⟩ = some (.int .i64 0):=(blk_cell BK262.out 3).trans rfl;have hcz23_4 : w19.cell? ⟨gb262,4,none⟩ = some (.int .u32 0):=(blk_cell BK262.out 4).trans rfl;have hfz23_0:=blk_frozen BK262.out 0;have hfz23_1:=blk_frozen BK262.out 1;have hfz23_2:=blk_frozen BK262.out 2;have hfz23_3:=blk_frozen BK262.out 3;have hfz23_4:=blk_frozen BK262.out 4;obtain ⟨Ao24,co24,eo24⟩:=Kd.S_slice HO258.out;subst eo24))
 (try simp only [Act.put,List.setIfInBounds_toArray,List.set_cons_zero,List.set_cons_succ])
 go_cut [36] (fun v36 wc=>∃ (kq : Nat) (x36_5 : Bool),v36 = .bool x36_5 ∧ Aside0 (coppicerkeep_LeastFew.j0 kq l2 t252 t261 x36_5 a0_0 a0_1 l0_2 a0_3 a0_4 a1_0 a1_1 l1_2 a1_3 a1_4 t245 t246 t247 t250 t251 t254 t255 t256 t259 t260 = some r) ∧ Aside0 (kq ≤ k) ∧ Aside0 (Kd.S (Kd.slice 3 (Kd.int .i64)) 28 wc w.heap.size (fun k_=>some k_ ≠ ((.slice Ao24 t256.length co24) : Value).ownBlock) (.slice Ao16 t247.length co16) t247) ∧ Aside0 (Kd.S (Kd.slice 3 (Kd.int .i64)) 28 wc w.heap.size (fun k_=>some k_ ≠ ((.slice Ao16 t247.length co16) : Value).ownBlock) (.slice Ao24 t256.length co24) t256) ∧ Aside0 (wc.heap[gb243]? = some (.cells #[.int .i64 a0_0,.int .i64 a0_1,(.slice A0_2 l0_2.length c0_2),.int .i64 a0_3,.int .u32 a0_4] 37 (0,0))) ∧ Aside0 (wc.heap[gb244]? = some (.cells #[.int .i64 a1_0,.int .i64 a1_1,(.slice A1_2 l1_2.length c1_2),.int .i64 a1_3,.int .u32 a1_4] 37 (0,0))) ∧ Aside0 (wc.heap[gb253]? = some (.cells #[.int .i64 t245,.int .i64 t246,(.slice Ao16 t247.length co16),.int .i64 t250,.int .u32 t251] 37 (0,0))) ∧ Aside0 (wc.heap[gb262]? = some (.cells #[.int .i64 t254,.int .i64 t255,(.slice Ao24 t256.length co24),.int .i64 t259,.int .u32 t260] 37 (0,0))) ∧ Aside0 (Below w.heap.size w wc))
 case first =>
  have H:=HC6.out
  clear HC6
  replace H:=Option.bind_eq_some_iff.mp H
  obtain ⟨t263,A250,H⟩:=H
  replace H : (if t263 = 0 then ((coppicerref_MachineCheck.f k a1_0 a1_1 l1_2 a1_3 a1_4).bind fun t264=>(coppicerkeep_LeastFew.j0 k l2 t252 t261 (t264 != 0) a0_0 a0_1 l0_2 a0_3 a0_4 a1_0 a1_1 l1_2 a1_3 a1_4 t245 t246 t247 t250 t251 t254 t255 t256 t259 t260)) else (coppicerkeep_LeastFew.j0 k l2 t252 t261 true a0_0 a0_1 l0_2 a0_3 a0_4 a1_0 a1_1 l1_2 a1_3 a1_4 t245 t246 t247 t250 t251 t254 t255 t256 t259 t260)) = some r:=H
  have A25:=Aside0.mk A250
  clear A250
  by_cases c26 : t263 = 0
  ·rw [if_pos c26] at H
   have c26b0 : (t263 == 0) = true:=beq_iff_eq.mpr c26
   have c26b1 : (t263 != 0) = false:=bne_eq_false_iff_eq.mpr c26
   clear c26
   (first|rw [c26b0]|(simp only [i64_w,i32_w];rw [c26b0])|skip)
   replace H:=Option.bind_eq_some_iff.mp H
   obtain ⟨t264,A270,H⟩:=H
   replace H : (coppicerkeep_LeastFew.j0 k l2 t252 t261 (t264 != 0) a0_0 a0_1 l0_2 a0_3 a0_4 a1_0 a1_1 l1_2 a1_3 a1_4 t245 t246 t247 t250 t251 t254 t255 t256 t259 t260) = some r:=H
   have A27:=Aside0.mk A270
   clear A270
   have H':=Aside0.mk H
   clear H
   have hnb28:=NB243_244.out
   have hnc28:=NB244_243.out
   have hnb29:=NB243_253.out
   have hnc29:=NB253_243.out
   have hnb30:=NB243_262.out
   have hnc30:=NB262_243.out
   have hcz31_0 : w19.cell? ⟨gb243,0,none⟩ = some (.int .i64 a0_0):=(blk_cell BK243.out 0).trans rfl
   have hcz31_1 : w19.cell? ⟨gb243,1,none⟩ = some (.int .i64 a0_1):=(blk_cell BK243.out 1).trans rfl
   have hcz31_2 : w19.cell? ⟨gb243,2,none⟩ = some (.slice A0_2 l0_2.length c0_2):=(blk_cell BK243.out 2).trans rfl
   have hcz31_3 : w19.cell? ⟨gb243,3,none⟩ = some (.int .i64 a0_3):=(blk_cell BK243.out 3).trans rfl
   have hcz31_4 : w19.cell? ⟨gb243,4,none⟩ = some (.int .u32 a0_4):=(blk_cell BK243.out 4).trans rfl
   have hfz31_0:=blk_frozen BK243.out 0
   have hfz31_1:=blk_frozen BK243.out 1
   have hfz31_2:=blk_frozen BK243.out 2
   have hfz31_3:=blk_frozen BK243.out 3
   have hfz31_4:=blk_frozen BK243.out 4
   go_wp2_with (first|((with_reducible refine gate_callee (f:=31) rfl ?_);refine goesL_ (some 30) rfl rfl Try.func31 (by kernel_rfl) rfl #[.agg #[.int .i64 a0_0,.int .i64 a0_1,.slice A0_2 l0_2.length c0_2,.int .i64 a0_3,.int .u32 a0_4]] rfl (by (try simp only [List.map_toArray,List.map_cons,List.map_nil]);first|done|rfl|(simp only [List.length_drop,List.length_take];rfl)) ?_;(with_reducible refine (coppicerref_MachineCheck.calls k a0_0 a0_1 _ _ l0_2 a0_3 a0_4 t263 _ ?side1 ?side2 A25.out).mono ?_);(case side1=>exact Kd.C_below HR0_2.out (by repeat (first|(with_reducible first|exact HB.out|apply below_alloc|apply pw_below_drewN|apply below_drew1|refine below_set ?_ GE243.out|refine below_set ?_ GE244.out|refine below_set ?_ GE253.out|refine below_set ?_ GE262.out)|exact HB.out)));(case side2=>exact HC0_2.out);rintro e w32 ⟨rfl,hb⟩;refine ⟨_,rfl,?_⟩;have n0_:=Aside0.mk (Kd.S_below (by (with_reducible repeat (first|apply Kd.S_alloc|apply Kd.S_drewN|apply Kd.S_drew));exact (Kd.S_mono (Kd.S_far (p:=⟨gb262,4,none⟩) (Kd.S_far (p:=⟨gb262,3,none⟩) (Kd.S_far (p:=⟨gb262,2,none⟩) (Kd.S_far (p:=⟨gb262,1,none⟩) (Kd.S_far (p:=⟨gb262,0,none⟩) (Kd.S_types HO249.out BK262.out (by decide)) (fun _ hk=>hk.2) (.int .i64 t254)) (fun _ hk=>hk.2) (.int .i64 t255)) (fun _ hk=>hk.2) (.slice Ao24 t256.length co24)) (fun _ hk=>hk.2) (.int .i64 t259)) (fun _ hk=>hk.2) (.int .u32 t260)) (fun _ h_=>h_.1))) hb);have n1_:=Aside0.mk (Kd.S_below (by (with_reducible repeat (first|apply Kd.S_alloc|apply Kd.S_drewN|apply Kd.S_drew));exact (Kd.S_mono (Kd.S_far (p:=⟨gb262,4,none⟩) (Kd.S_far (p:=⟨gb262,3,none⟩) (Kd.S_far (p:=⟨gb262,2,none⟩) (Kd.S_far (p:=⟨gb262,1,none⟩) (Kd.S_far (p:=⟨gb262,0,none⟩) (Kd.S_types HO258.out BK262.out (by decide)) (fun _ hk=>hk.2) (.int .i64 t254)) (fun _ hk=>hk.2) (.int .i64 t255)) (fun _ hk=>hk.2) (.slice Ao24 t256.length co24)) (fun _ hk=>hk.2) (.int .i64 t259)) (fun _ hk=>hk.2) (.int .u32 t260)) (fun _ h_=>h_.1))) hb);have n2_:=Aside0.mk (blk_below (g:=gb243) (o:=.cells #[.int .i64 a0_0,.int .i64 a0_1,.slice A0_2 l0_2.length c0_2,.int .i64 a0_3,.int .u32 a0_4] 37 (0,0)) (by (with_reducible repeat (first|refine blk_drewN ?_ _|refine blk_drew ?_|refine blk_alloc ?_ _));refine blk_far ?_ NB243_262.out _;(with_reducible repeat (first|refine blk_drewN ?_ _|refine blk_drew ?_|refine blk_alloc ?_ _));refine blk_far ?_ NB243_262.out _;(with_reducible repeat (first|refine blk_drewN ?_ _|refine blk_drew ?_|refine blk_alloc ?_ _));refine blk_far ?_ NB243_262.out _;(with_reducible repeat (first|refine blk_drewN ?_ _|refine blk_drew ?_|refine blk_alloc ?_ _));refine blk_far ?_ NB243_262.out _;(with_reducible repeat (first|refine blk_drewN ?_ _|refine blk_drew ?_|refine blk_alloc ?_ _));refine blk_far ?_ NB243_262.out _;(with_reducible repeat (first|refine blk_drewN ?_ _|refine blk_drew ?_|refine blk_alloc ?_ _));exact BK243.out) hb);have n3_:=Aside0.mk (blk_below (g:=gb244) (o:=.cells #[.int .i64 a1_0,.int .i64 a1_1,.slice A1_2 l1_2.length c1_2,.int .i64 a1_3,.int .u32 a1_4] 37 (0,0)) (by (with_reducible repeat (first|refine blk_drewN ?_ _|refine blk_drew ?_|refine blk_alloc ?_ _));refine blk_far ?_ NB244_262.out _;(with_reducible repeat (first|refine blk_drewN ?_ _|refine blk_drew ?_|refine blk_alloc ?_ _));refine blk_far ?_ NB244_262.out _;(with_reducible repeat (first|refine blk_drewN ?_ _|refine blk_drew ?_|refine blk_alloc ?_ _));refine blk_far ?_ NB244_262.out _;(with_reducible repeat (first|refine blk_drewN ?_ _|refine blk_drew ?_|refine blk_alloc ?_ _));refine blk_far ?_ NB244_262.out _;(with_reducible repeat (first|refine blk_drewN ?_ _|refine blk_drew ?_|refine blk_alloc ?_ _));refine blk_far ?_ NB244_262.out _;(with_reducible repeat (first|refine blk_drewN ?_ _|refine blk_drew ?_|refine blk_alloc ?_ _));exact BK244.out) hb);have n4_:=Aside0.mk (blk_below (g:=gb253) (o:=.cells #[.int .i64 t245,.int .i64 t246,.slice Ao16 t247.length co16,.int .i64 t250,.int .u32 t251] 37 (0,0)) (by (with_reducible repeat (first|refine blk_drewN ?_ _|refine blk_drew ?_|refine blk_alloc ?_ _));refine blk_far ?_ NB253_262.out _;(with_reducible repeat (first|refine blk_drewN ?_ _|refine blk_drew ?_|refine blk_alloc ?_ _));refine blk_far ?_ NB253_262.out _;(with_reducible repeat (first|refine blk_drewN ?_ _|refine blk_drew ?_|refine blk_alloc ?_ _));refine blk_far ?_ NB253_262.out _;(with_reducible repeat (first|refine blk_drewN ?_ _|refine blk_drew ?_|refine blk_alloc ?_ _));refine blk_far ?_ NB253_262.out _;(with_reducible repeat (first|refine blk_drewN ?_ _|refine blk_drew ?_|refine blk_alloc ?_ _));refine blk_far ?_ NB253_262.out _;(with_reducible repeat (first|refine blk_drewN ?_ _|refine blk_drew ?_|refine blk_alloc ?_ _));exact BK253.out) hb);have n5_:=Aside0.mk (blk_below (g:=gb262) (o:=.cells #[.int .i64 t254,.int .i64 t255,.slice Ao24 t256.length co24,.int .i64 t259,.int .u32 t260] 37 (0,0)) (by (with_reducible repeat (first|refine blk_drewN ?_ _|refine blk_drew ?_|refine blk_alloc ?_ _));refine blk_put (cs:=#[.int .i64 t254,.int .i64 t255,.slice Ao24 t256.length co24,.int .i64 t259,.int .u32 0]) ?_ 4 _ rfl;(with_reducible repeat (first|refine blk_drewN ?_ _|refine blk_drew ?_|refine blk_alloc ?_ _));refine blk_put (cs:=#[.int .i64 t254,.int .i64 t255,.slice Ao24 t256.length co24,.int .i64 0,.int .u32 0]) ?_ 3 _ rfl;(with_reducible repeat (first|refine blk_drewN ?_ _|refine blk_drew ?_|refine blk_alloc ?_ _));refine blk_put (cs:=#[.int .i64 t254,.int .i64 t255,.slice none 0 0,.int .i64 0,.int .u32 0]) ?_ 2 _ rfl;(with_reducible repeat (first|refine blk_drewN ?_ _|refine blk_drew ?_|refine blk_alloc ?_ _));refine blk_put (cs:=#[.int .i64 t254,.int .i64 0,.slice none 0 0,.int .i64 0,.int .u32 0]) ?_ 1 _ rfl;(with_reducible repeat (first|refine blk_drewN ?_ _|refine blk_drew ?_|refine blk_alloc ?_ _));refine blk_put (cs:=#[.int .i64 0,.int .i64 0,.slice none 0 0,.int .i64 0,.int .u32 0]) ?_ 0 _ rfl;(with_reducible repeat (first|refine blk_drewN ?_ _|refine blk_drew ?_|refine blk_alloc ?_ _));exact BK262.out) hb);have n6_:=Aside0.mk (below_step (by repeat (first|(with_reducible first|exact HB.out|apply below_alloc|apply pw_below_drewN|apply below_drew1|refine below_set ?_ GE243.out|refine below_set ?_ GE244.out|refine below_set ?_ GE253.out|refine below_set ?_ GE262.out)|exact HB.out)) hb);clear HO249;clear HO258;clear BK243;clear BK244;clear BK253;clear BK262;clear HB;have HO249:=n0_;have HO258:=n1_;have BK243:=n2_;have BK244:=n3_;have BK253:=n4_;have BK262:=n5_;have HB:=n6_;clear n0_ n1_ n2_ n3_ n4_ n5_ n6_;(try clear hb);(try clear hb2);(try clear hk);(try clear hi);have hnb33:=NB244_253.out;have hnc33:=NB253_244.out;have hnb34:=NB244_262.out;have hnc34:=NB262_244.out;have hcz35_0 : w32.cell? ⟨gb244,0,none⟩ = some (.int .i64 a1_0):=(blk_cell BK244.out 0).trans rfl;have hcz35_1 : w32.cell? ⟨gb244,1,none⟩ = some (.int .i64 a1_1):=(blk_cell BK244.out 1).trans rfl;have hcz35_2 : w32.cell? ⟨gb244,2,none⟩ = some (.slice A1_2 l1_2.length c1_2):=(blk_cell BK244.out 2).trans rfl;have hcz35_3 : w32.cell? ⟨gb244,3,none⟩ = some (.int .i64 a1_3):=(blk_cell BK244.out 3).trans rfl;have hcz35_4 : w32.cell? ⟨gb244,4,none⟩ = some (.int .u32 a1_4):=(blk_cell BK244.out 4).trans rfl;have hfz35_0:=blk_frozen BK244.out 0;have hfz35_1:=blk_frozen BK244.out 1;have hfz35_2:=blk_frozen BK244.out 2;have hfz35_3:=blk_frozen BK244.out 3;have hfz35_4:=blk_frozen BK244.out 4)|(go_at_call 31;(with_reducible refine (coppicerref_MachineCheck.calls k a1_0 a1_1 _ _ l1_2 a1_3 a1_4 t264 _ ?side1 ?side2 A27.out).mono ?_);(case side1=>repeat (first|exact (Kd.C_below HR1_2.out HB.out)|(with_reducible refine Kd.C_alloc ?_ _)|(with_reducible refine Kd.C_drewN ?_ _)|(with_reducible refine Kd.C_drew ?_)));(case side2=>exact HC1_2.out);rintro e w36 ⟨rfl,hb⟩;have n0_:=Aside0.mk (Kd.S_below (by (with_reducible repeat (first|apply Kd.S_alloc|apply Kd.S_drewN|apply Kd.S_drew));exact HO249.out) hb);have n1_:=Aside0.mk (Kd.S_below (by (with_reducible repeat (first|apply Kd.S_alloc|apply Kd.S_drewN|apply Kd.S_drew));exact HO258.out) hb);have n2_:=Aside0.mk (blk_below (g:=gb243) (o:=.cells #[.int .i64 a0_0,.int .i64 a0_1,.slice A0_2 l0_2.length c0_2,.int .i64 a0_3,.int .u32 a0_4] 37 (0,0)) (by (with_reducible repeat (first|refine blk_drewN ?_ _|refine blk_drew ?_|refine blk_alloc ?_ _));exact BK243.out) hb);have n3_:=Aside0.mk (blk_below (g:=gb244) (o:=.cells #[.int .i64 a1_0,.int .i64 a1_1,.slice A1_2 l1_2.length c1_2,.int .i64 a1_3,.int .u32 a1_4] 37 (0,0)) (by (with_reducible repeat (first|refine blk_drewN ?_ _|refine blk_drew ?_|refine blk_alloc ?_ _));exact BK244.out) hb);have n4_:=Aside0.mk (blk_below (g:=gb253) (o:=.cells #[.int .i64 t245,.int .i64 t246,.slice Ao16 t247.length co16,.int .i64 t250,.int .u32 t251] 37 (0,0)) (by (with_reducible repeat (first|refine blk_drewN ?_ _|refine blk_drew ?_|refine blk_alloc ?_ _));exact BK253.out) hb);have n5_:=Aside0.mk (blk_below (g:=gb262) (o:=.cells #[.int .i64 t254,.int .i64 t255,.slice Ao24 t256.length co24,.int .i64 t259,.int .u32 t260] 37 (0,0)) (by (with_reducible repeat (first|refine blk_drewN ?_ _|refine blk_drew ?_|refine blk_alloc ?_ _));exact BK262.out) hb);have n6_:=Aside0.mk (below_step (by repeat (first|(with_reducible first|exact HB.out|apply below_alloc|apply pw_below_drewN|apply below_drew1|refine below_set ?_ GE243.out|refine below_set ?_ GE244.out|refine below_set ?_ GE253.out|refine below_set ?_ GE262.out)|exact HB.out)) hb);clear HO249;clear HO258;clear BK243;clear BK244;clear BK253;clear BK262;clear HB;have HO249:=n0_;have HO258:=n1_;have BK243:=n2_;have BK244:=n3_;have BK253:=n4_;have BK262:=n5_;have HB:=n6_;clear n0_ n1_ n2_ n3_ n4_ n5_ n6_;(try clear hb);(try clear hb2);(try clear hk);(try clear hi)))
   go_meet
   case rel=>exact ⟨_,((t264 != 0)),(by first|rfl|(simp;done)|(simp [*];done)),H',⟨by first|omega|exact Nat.le_refl _⟩,⟨by (with_reducible repeat (first|apply Kd.S_alloc|apply Kd.S_drewN|apply Kd.S_drew));exact Kd.S_mono HO249.out (fun _ hk=>hk.2)⟩,⟨by (with_reducible repeat (first|apply Kd.S_alloc|apply Kd.S_drewN|apply Kd.S_drew));exact Kd.S_mono HO258.out (fun _ hk=>hk.2)⟩,⟨by (with_reducible repeat (first|refine blk_drewN ?_ _|refine blk_drew ?_|refine blk_alloc ?_ _));exact BK243.out⟩,⟨by (with_reducible repeat (first|refine blk_drewN ?_ _|refine blk_drew ?_|refine blk_alloc ?_ _));exact BK244.out⟩,⟨by (with_reducible repeat (first|refine blk_drewN ?_ _|refine blk_drew ?_|refine blk_alloc ?_ _));exact BK253.out⟩,⟨by (with_reducible repeat (first|refine blk_drewN ?_ _|refine blk_drew ?_|refine blk_alloc ?_ _));exact BK262.out⟩,⟨by repeat (first|(with_reducible first|exact HB.out|apply below_alloc|apply pw_below_drewN|apply below_drew1|refine below_set ?_ GE243.out|refine below_set ?_ GE244.out|refine below_set ?_ GE253.out|refine below_set ?_ GE262.out)|exact HB.out)⟩⟩
  ·rw [if_neg c26] at H
   have c26b0 : (t263 == 0) = false:=beq_eq_false_iff_ne.mpr c26
   have c26b1 : (t263 != 0) = true:=bne_iff_ne.mpr c26
   (first|rw [c26b0]|(simp only [i64_w,i32_w];rw [c26b0])|skip)
   have H':=Aside0.mk H
   clear H
   have hnb37:=NB243_244.out
   have hnc37:=NB244_243.out
   have hnb38:=NB243_253.out
   have hnc38:=NB253_243.out
   have hnb39:=NB243_262.out
   have hnc39:=NB262_243.out
   have hcz40_0 : w19.cell? ⟨gb243,0,none⟩ = some (.int .i64 a0_0):=(blk_cell BK243.out 0).trans rfl
   have hcz40_1 : w19.cell? ⟨gb243,1,none⟩ = some (.int .i64 a0_1):=(blk_cell BK243.out 1).trans rfl
   have hcz40_2 : w19.cell? ⟨gb243,2,none⟩ = some (.slice A0_2 l0_2.length c0_2):=(blk_cell BK243.out 2).trans rfl
   have hcz40_3 : w19.cell? ⟨gb243,3,none⟩ = some (.int .i64 a0_3):=(blk_cell BK243.out 3).trans rfl
   have hcz40_4 : w19.cell? ⟨gb243,4,none⟩ = some (.int .u32 a0_4):=(blk_cell BK243.out 4).trans rfl
   have hfz40_0:=blk_frozen BK243.out 0
   have hfz40_1:=blk_frozen BK243.out 1
   have hfz40_2:=blk_frozen BK243.out 2
   have hfz40_3:=blk_frozen BK243.out 3
   have hfz40_4:=blk_frozen BK243.out 4
   go_wp2_with (first|((with_reducible refine gate_callee (f:=31) rfl ?_);refine goesL_ (some 30) rfl rfl Try.func31 (by kernel_rfl) rfl #[.agg #[.int .i64 a0_0,.int .i64 a0_1,.slice A0_2 l0_2.length c0_2,.int .i64 a0_3,.int .u32 a0_4]] rfl (by (try simp only [List.map_toArray,List.map_cons,List.map_nil]);first|done|rfl|(simp only [List.length_drop,List.length_take];rfl)) ?_;(with_reducible refine (coppicerref_MachineCheck.calls k a0_0 a0_1 _ _ l0_2 a0_3 a0_4 t263 _ ?side1 ?side2 A25.out).mono ?_);(case side1=>exact Kd.C_below HR0_2.out (by repeat (first|(with_reducible first|exact HB.out|apply below_alloc|apply pw_below_drewN|apply below_drew1|refine below_set ?_ GE243.out|refine below_set ?_ GE244.out|refine below_set ?_ GE253.out|refine below_set ?_ GE262.out)|exact HB.out)));(case side2=>exact HC0_2.out);rintro e w41 ⟨rfl,hb⟩;refine ⟨_,rfl,?_⟩;have n0_:=Aside0.mk (Kd.S_below (by (with_reducible repeat (first|apply Kd.S_alloc|apply Kd.S_drewN|apply Kd.S_drew));exact (Kd.S_mono (Kd.S_far (p:=⟨gb262,4,none⟩) (Kd.S_far (p:=⟨gb262,3,none⟩) (Kd.S_far (p:=⟨gb262,2,none⟩) (Kd.S_far (p:=⟨gb262,1,none⟩) (Kd.S_far (p:=⟨gb262,0,none⟩) (Kd.S_types HO249.out BK262.out (by decide)) (fun _ hk=>hk.2) (.int .i64 t254)) (fun _ hk=>hk.2) (.int .i64 t255)) (fun _ hk=>hk.2) (.slice Ao24 t256.length co24)) (fun _ hk=>hk.2) (.int .i64 t259)) (fun _ hk=>hk.2) (.int .u32 t260)) (fun _ h_=>h_.1))) hb);have n1_:=Aside0.mk (Kd.S_below (by (with_reducible repeat (first|apply Kd.S_alloc|apply Kd.S_drewN|apply Kd.S_drew));exact (Kd.S_mono (Kd.S_far (p:=⟨gb262,4,none⟩) (Kd.S_far (p:=⟨gb262,3,none⟩) (Kd.S_far (p:=⟨gb262,2,none⟩) (Kd.S_far (p:=⟨gb262,1,none⟩) (Kd.S_far (p:=⟨gb262,0,none⟩) (Kd.S_types HO258.out BK262.out (by decide)) (fun _ hk=>hk.2) (.int .i64 t254)) (fun _ hk=>hk.2) (.int .i64 t255)) (fun _ hk=>hk.2) (.slice Ao24 t256.length co24)) (fun _ hk=>hk.2) (.int .i64 t259)) (fun _ hk=>hk.2) (.int .u32 t260)) (fun _ h_=>h_.1))) hb);have n2_:=Aside0.mk (blk_below (g:=gb243) (o:=.cells #[.int .i64 a0_0,.int .i64 a0_1,.slice A0_2 l0_2.length c0_2,.int .i64 a0_3,.int .u32 a0_4] 37 (0,0)) (by (with_reducible repeat (first|refine blk_drewN ?_ _|refine blk_drew ?_|refine blk_alloc ?_ _));refine blk_far ?_ NB243_262.out _;(with_reducible repeat (first|refine blk_drewN ?_ _|refine blk_drew ?_|refine blk_alloc ?_ _));refine blk_far ?_ NB243_262.out _;(with_reducible repeat (first|refine blk_drewN ?_ _|refine blk_drew ?_|refine blk_alloc ?_ _));refine blk_far ?_ NB243_262.out _;(with_reducible repeat (first|refine blk_drewN ?_ _|refine blk_drew ?_|refine blk_alloc ?_ _));refine blk_far ?_ NB243_262.out _;(with_reducible repeat (first|refine blk_drewN ?_ _|refine blk_drew ?_|refine blk_alloc ?_ _));refine blk_far ?_ NB243_262.out _;(with_reducible repeat (first|refine blk_drewN ?_ _|refine blk_drew ?_|refine blk_alloc ?_ _));exact BK243.out) hb);have n3_:=Aside0.mk (blk_below (g:=gb244) (o:=.cells #[.int .i64 a1_0,.int .i64 a1_1,.slice A1_2 l1_2.length c1_2,.int .i64 a1_3,.int .u32 a1_4] 37 (0,0)) (by (with_reducible repeat (first|refine blk_drewN ?_ _|refine blk_drew ?_|refine blk_alloc ?_ _));refine blk_far ?_ NB244_262.out _;(with_reducible repeat (first|refine blk_drewN ?_ _|refine blk_drew ?_|refine blk_alloc ?_ _));refine blk_far ?_ NB244_262.out _;(with_reducible repeat (first|refine blk_drewN ?_ _|refine blk_drew ?_|refine blk_alloc ?_ _));refine blk_far ?_ NB244_262.out _;(with_reducible repeat (first|refine blk_drewN ?_ _|refine blk_drew ?_|refine blk_alloc ?_ _));refine blk_far ?_ NB244_262.out _;(with_reducible repeat (first|refine blk_drewN ?_ _|refine blk_drew ?_|refine blk_alloc ?_ _));refine blk_far ?_ NB244_262.out _;(with_reducible repeat (first|refine blk_drewN ?_ _|refine blk_drew ?_|refine blk_alloc ?_ _));exact BK244.out) hb);have n4_:=Aside0.mk (blk_below (g:=gb253) (o:=.cells #[.int .i64 t245,.int .i64 t246,.slice Ao16 t247.length co16,.int .i64 t250,.int .u32 t251] 37 (0,0)) (by (with_reducible repeat (first|refine blk_drewN ?_ _|refine blk_drew ?_|refine blk_alloc ?_ _));refine blk_far ?_ NB253_262.out _;(with_reducible repeat (first|refine blk_drewN ?_ _|refine blk_drew ?_|refine blk_alloc ?_ _));refine blk_far ?_ NB253_262.out _;(with_reducible repeat (first|refine blk_drewN ?_ _|refine blk_drew ?_|refine blk_alloc ?_ _));refine blk_far ?_ NB253_262.out _;(with_reducible repeat (first|refine blk_drewN ?_ _|refine blk_drew ?_|refine blk_alloc ?_ _));refine blk_far ?_ NB253_262.out _;(with_reducible repeat (first|refine blk_drewN ?_ _|refine blk_drew ?_|refine blk_alloc ?_ _));refine blk_far ?_ NB253_262.out _;(with_reducible repeat (first|refine blk_drewN ?_ _|refine blk_drew ?_|refine blk_alloc ?_ _));exact BK253.out) hb);have n5_:=Aside0.mk (blk_below (g:=gb262) (o:=.cells #[.int .i64 t254,.int .i64 t255,.slice Ao24 t256.length co24,.int .i64 t259,.int .u32 t260] 37 (0,0)) (by (with_reducible repeat (first|refine blk_drewN ?_ _|refine blk_drew ?_|refine blk_alloc ?_ _));refine blk_put (cs:=#[.int .i64 t254,.int .i64 t255,.slice Ao24 t256.length co24,.int .i64 t259,.int .u32 0]) ?_ 4 _ rfl;(with_reducible repeat (first|refine blk_drewN ?_ _|refine blk_drew ?_|refine blk_alloc ?_ _));refine blk_put (cs:=#[.int .i64 t254,.int .i64 t255,.slice Ao24 t256.length co24,.int .i64 0,.int .u32 0]) ?_ 3 _ rfl;(with_reducible repeat (first|refine blk_drewN ?_ _|refine blk_drew ?_|refine blk_alloc ?_ _));refine blk_put (cs:=#[.int .i64 t254,.int .i64 t255,.slice none 0 0,.int .i64 0,.int .u32 0]) ?_ 2 _ rfl;(with_reducible repeat (first|refine blk_drewN ?_ _|refine blk_drew ?_|refine blk_alloc ?_ _));refine blk_put (cs:=#[.int .i64 t254,.int .i64 0,.slice none 0 0,.int .i64 0,.int .u32 0]) ?_ 1 _ rfl;(with_reducible repeat (first|refine blk_drewN ?_ _|refine blk_drew ?_|refine blk_alloc ?_ _));refine blk_put (cs:=#[.int .i64 0,.int .i64 0,.slice none 0 0,.int .i64 0,.int .u32 0]) ?_ 0 _ rfl;(with_reducible repeat (first|refine blk_drewN ?_ _|refine blk_drew ?_|refine blk_alloc ?_ _));exact BK262.out) hb);have n6_:=Aside0.mk (below_step (by repeat (first|(with_reducible first|exact HB.out|apply below_alloc|apply pw_below_drewN|apply below_drew1|refine below_set ?_ GE243.out|refine below_set ?_ GE244.out|refine below_set ?_ GE253.out|refine below_set ?_ GE262.out)|exact HB.out)) hb);clear HO249;clear HO258;clear BK243;clear BK244;clear BK253;clear BK262;clear HB;have HO249:=n0_;have HO258:=n1_;have BK243:=n2_;have BK244:=n3_;have BK253:=n4_;have BK262:=n5_;have HB:=n6_;clear n0_ n1_ n2_ n3_ n4_ n5_ n6_;(try clear hb);(try clear hb2);(try clear hk);(try clear hi)))
   go_meet
   case rel=>exact ⟨_,(true),(by first|rfl|(simp;done)|(simp [*];done)),H',⟨by first|omega|exact Nat.le_refl _⟩,⟨by (with_reducible repeat (first|apply Kd.S_alloc|apply Kd.S_drewN|apply Kd.S_drew));exact Kd.S_mono HO249.out (fun _ hk=>hk.2)⟩,⟨by (with_reducible repeat (first|apply Kd.S_alloc|apply Kd.S_drewN|apply Kd.S_drew));exact Kd.S_mono HO258.out (fun _ hk=>hk.2)⟩,⟨by (with_reducible repeat (first|refine blk_drewN ?_ _|refine blk_drew ?_|refine blk_alloc ?_ _));exact BK243.out⟩,⟨by (with_reducible repeat (first|refine blk_drewN ?_ _|refine blk_drew ?_|refine blk_alloc ?_ _));exact BK244.out⟩,⟨by (with_reducible repeat (first|refine blk_drewN ?_ _|refine blk_drew ?_|refine blk_alloc ?_ _));exact BK253.out⟩,⟨by (with_reducible repeat (first|refine blk_drewN ?_ _|refine blk_drew ?_|refine blk_alloc ?_ _));exact BK262.out⟩,⟨by repeat (first|(with_reducible first|exact HB.out|apply below_alloc|apply pw_below_drewN|apply below_drew1|refine below_set ?_ GE243.out|refine below_set ?_ GE244.out|refine below_set ?_ GE253.out|refine below_set ?_ GE262.out)|exact HB.out)⟩⟩
 case rest =>
  clear HC6
  try clear c1
  try clear c2
  try clear p2
  try clear c3
  try clear c9
  try clear c13
  try clear c14
  try clear c20
  try clear c21
  try clear c22
  try clear c26
  try clear c26b0
  try clear c26b1
  try clear c28
  try clear c29
  try clear c30
  try clear c31
  try clear c33
  try clear c34
  try clear c36
  try clear c37
  try clear c38
  try clear c39
  try clear hcz10_0
  try clear hcz10_1
  try clear hcz10_2
  try clear hcz10_3
  try clear hcz10_4
  try clear hcz15_0
  try clear hcz15_1
  try clear hcz15_2
  try clear hcz15_3
  try clear hcz15_4
  try clear hcz17_0
  try clear hcz17_1
  try clear hcz17_2
  try clear hcz17_3
  try clear hcz17_4
  try clear hcz23_0
  try clear hcz23_1
  try clear hcz23_2
  try clear hcz23_3
  try clear hcz23_4
  try clear hcz31_0
  try clear hcz31_1
  try clear hcz31_2
  try clear hcz31_3
  try clear hcz31_4
  try clear hcz35_0
  try clear hcz35_1
  try clear hcz35_2
  try clear hcz35_3
  try clear hcz35_4
  try clear hcz40_0
  try clear hcz40_1
  try clear hcz40_2
  try clear hcz40_3
  try clear hcz40_4
  try clear hfz10_0
  try clear hfz10_1
  try clear hfz10_2
  try clear hfz10_3
  try clear hfz10_4
  try clear hfz15_0
  try clear hfz15_1
  try clear hfz15_2
  try clear hfz15_3
  try clear hfz15_4
  try clear hfz17_0
  try clear hfz17_1
  try clear hfz17_2
  try clear hfz17_3
  try clear hfz17_4
  try clear hfz23_0
  try clear hfz23_1
  try clear hfz23_2
  try clear hfz23_3
  try clear hfz23_4
  try clear hfz31_0
  try clear hfz31_1
  try clear hfz31_2
  try clear hfz31_3
  try clear hfz31_4
  try clear hfz35_0
  try clear hfz35_1
  try clear hfz35_2
  try clear hfz35_3
  try clear hfz35_4
  try clear hfz40_0
  try clear hfz40_1
  try clear hfz40_2
  try clear hfz40_3
  try clear hfz40_4
  obtain ⟨kq,x36_5,rfl,HA,HJ5,HO_254002,HO_263002,BK243,BK244,BK253,BK262,HB⟩:=hcut
  cases kq with
  | zero=>exact absurd HA.out (by simp [coppicerkeep_LeastFew.j0])
  | succ kj5 =>
   have H:=HA.out
   clear HA
   simp only [coppicerkeep_LeastFew.j0] at H
   by_cases c42 : x36_5 = true
   ·subst c42
    have H1 : (if t252 = 0 then (some (t261 != 0)) else (some true)) = some r:=by rw [if_pos rfl] at H;exact H
    clear H
    have H:=H1
    clear H1
    by_cases c43 : t252 = 0
    ·rw [if_pos c43] at H
     have c43b0 : (t252 == 0) = true:=beq_iff_eq.mpr c43
     have c43b1 : (t252 != 0) = false:=bne_eq_false_iff_eq.mpr c43
     clear c43
     obtain rfl:=Option.some.inj H
     go_wp2
     go_ret
     exact ⟨by first|rfl|(simp [errW_none,errW_some] <;> rfl)|(simp [*,errW_none,errW_some] <;> rfl),by repeat (first|(with_reducible first|exact HB.out|apply below_alloc|apply pw_below_drewN|apply below_drew1|refine below_set ?_ GE243.out|refine below_set ?_ GE244.out|refine below_set ?_ GE253.out|refine below_set ?_ GE262.out)|exact HB.out)⟩
    ·rw [if_neg c43] at H
     have c43b0 : (t252 == 0) = false:=beq_eq_false_iff_ne.mpr c43
     have c43b1 : (t252 != 0) = true:=bne_iff_ne.mpr c43
     obtain rfl:=Option.some.inj H
     go_wp2
     go_ret
     exact ⟨by first|rfl|(simp [errW_none,errW_some] <;> rfl)|(simp [*,errW_none,errW_some] <;> rfl),by repeat (first|(with_reducible first|exact HB.out|apply below_alloc|apply pw_below_drewN|apply below_drew1|refine below_set ?_ GE243.out|refine below_set ?_ GE244.out|refine below_set ?_ GE253.out|refine below_set ?_ GE262.out)|exact HB.out)⟩
   ·replace c42:=Bool.eq_false_iff.mpr c42
    subst c42
    have H1 : (if t252 = 0 then (if t261 = 0 then (if t245 < 1 then (coppicerkeep_LeastFew.j1 kj5 l2 true a0_0 a0_1 l0_2 a0_3 a0_4 a1_0 a1_1 l1_2 a1_3 a1_4 t245 t246 t247 t250 t251 t254 t255 t256 t259 t260) else (if t245 > a0_0 then (coppicerkeep_LeastFew.j1 kj5 l2 true a0_0 a0_1 l0_2 a0_3 a0_4 a1_0 a1_1 l1_2 a1_3 a1_4 t245 t246 t247 t250 t251 t254 t255 t256 t259 t260) else (coppicerkeep_LeastFew.j1 kj5 l2 (decide (t254 > a1_0)) a0_0 a0_1 l0_2 a0_3 a0_4 a1_0 a1_1 l1_2 a1_3 a1_4 t245 t246 t247 t250 t251 t254 t255 t256 t259 t260))) else (coppicerkeep_LeastFew.j1 kj5 l2 true a0_0 a0_1 l0_2 a0_3 a0_4 a1_0 a1_1 l1_2 a1_3 a1_4 t245 t246 t247 t250 t251 t254 t255 t256 t259 t260)) else (coppicerkeep_LeastFew.j1 kj5 l2 true a0_0 a0_1 l0_2 a0_3 a0_4 a1_0 a1_1 l1_2 a1_3 a1_4 t245 t246 t247 t250 t251 t254 t255 t256 t259 t260)) = some r:=by rw [if_neg (show ¬ (false = true) by decide)] at H;exact H
    clear H
    have H:=H1
    clear H1
    have HC44:=Aside0.mk H
    clear H
    go_upto_region 5 with (fail)
    go_cut [67] (fun v67 wc=>∃ (kq : Nat) (x67_43 : Bool),v67 = .bool x67_43 ∧ Aside0 (coppicerkeep_LeastFew.j1 kq l2 x67_43 a0_0 a0_1 l0_2 a0_3 a0_4 a1_0 a1_1 l1_2 a1_3 a1_4 t245 t246 t247 t250 t251 t254 t255 t256 t259 t260 = some r) ∧ Aside0 (kq ≤ kj5) ∧ Aside0 (Kd.S (Kd.slice 3 (Kd.int .i64)) 28 wc w.heap.size (fun k_=>some k_ ≠ ((.slice Ao24 t256.length co24) : Value).ownBlock) (.slice Ao16 t247.length co16) t247) ∧ Aside0 (Kd.S (Kd.slice 3 (Kd.int .i64)) 28 wc w.heap.size (fun k_=>some k_ ≠ ((.slice Ao16 t247.length co16) : Value).ownBlock) (.slice Ao24 t256.length co24) t256) ∧ Aside0 (wc.heap[gb243]? = some (.cells #[.int .i64 a0_0,.int .i64 a0_1,(.slice A0_2 l0_2.length c0_2),.int .i64 a0_3,.int .u32 a0_4] 37 (0,0))) ∧ Aside0 (wc.heap[gb244]? = some (.cells #[.int .i64 a1_0,.int .i64 a1_1,(.slice A1_2 l1_2.length c1_2),.int .i64 a1_3,.int .u32 a1_4] 37 (0,0))) ∧ Aside0 (wc.heap[gb253]? = some (.cells #[.int .i64 t245,.int .i64 t246,(.slice Ao16 t247.length co16),.int .i64 t250,.int .u32 t251] 37 (0,0))) ∧ Aside0 (wc.heap[gb262]? = some (.cells #[.int .i64 t254,.int .i64 t255,(.slice Ao24 t256.length co24),.int .i64 t259,.int .u32 t260] 37 (0,0))) ∧ Aside0 (Below w.heap.size w wc))
    case first =>
     have H:=HC44.out
     clear HC44
     by_cases c45 : t252 = 0
     ·rw [if_pos c45] at H
      have c45b0 : (t252 == 0) = true:=beq_iff_eq.mpr c45
      have c45b1 : (t252 != 0) = false:=bne_eq_false_iff_eq.mpr c45
      clear c45
      (first|rw [c45b0]|(simp only [i64_w,i32_w];rw [c45b0])|skip)
      by_cases c46 : t261 = 0
      ·rw [if_pos c46] at H
       have c46b0 : (t261 == 0) = true:=beq_iff_eq.mpr c46
       have c46b1 : (t261 != 0) = false:=bne_eq_false_iff_eq.mpr c46
       clear c46
       by_cases c47 : t245 < 1
       ·rw [if_pos c47] at H
        have c47b0 : decide (t245 < 1) = true:=decide_eq_true c47
        clear c47
        have H':=Aside0.mk H
        clear H
        have hnb48:=NB253_243.out
        have hnc48:=NB243_253.out
        have hnb49:=NB253_244.out
        have hnc49:=NB244_253.out
        have hnb50:=NB253_262.out
        have hnc50:=NB262_253.out
        have hcz51_0 : wc.cell? ⟨gb253,0,none⟩ = some (.int .i64 t245):=(blk_cell BK253.out 0).trans rfl
        have hcz51_1 : wc.cell? ⟨gb253,1,none⟩ = some (.int .i64 t246):=(blk_cell BK253.out 1).trans rfl
        have hcz51_2 : wc.cell? ⟨gb253,2,none⟩ = some (.slice Ao16 t247.length co16):=(blk_cell BK253.out 2).trans rfl
        have hcz51_3 : wc.cell? ⟨gb253,3,none⟩ = some (.int .i64 t250):=(blk_cell BK253.out 3).trans rfl
        have hcz51_4 : wc.cell? ⟨gb253,4,none⟩ = some (.int .u32 t251):=(blk_cell BK253.out 4).trans rfl
        have hfz51_0:=blk_frozen BK253.out 0
        have hfz51_1:=blk_frozen BK253.out 1
        have hfz51_2:=blk_frozen BK253.out 2
        have hfz51_3:=blk_frozen BK253.out 3
        have hfz51_4:=blk_frozen BK253.out 4
        go_wp2
        go_meet
        case rel=>exact ⟨_,(true),(by first|rfl|(simp;done)|(simp [*];done)),H',⟨by have:=HJ5.out;first|omega|exact Nat.le_refl _⟩,⟨by (with_reducible repeat (first|apply Kd.S_alloc|apply Kd.S_drewN|apply Kd.S_drew));exact HO_254002.out⟩,⟨by (with_reducible repeat (first|apply Kd.S_alloc|apply Kd.S_drewN|apply Kd.S_drew));exact HO_263002.out⟩,⟨by (with_reducible repeat (first|refine blk_drewN ?_ _|refine blk_drew ?_|refine blk_alloc ?_ _));exact BK243.out⟩,⟨by (with_reducible repeat (first|refine blk_drewN ?_ _|refine blk_drew ?_|refine blk_alloc ?_ _));exact BK244.out⟩,⟨by (with_reducible repeat (first|refine blk_drewN ?_ _|refine blk_drew ?_|refine blk_alloc ?_ _));exact BK253.out⟩,⟨by (with_reducible repeat (first|refine blk_drewN ?_ _|refine blk_drew ?_|refine blk_alloc ?_ _));exact BK262.out⟩,⟨by repeat (first|(with_reducible first|exact HB.out|apply below_alloc|apply pw_below_drewN|apply below_drew1|refine below_set ?_ GE243.out|refine below_set ?_ GE244.out|refine below_set ?_ GE253.out|refine below_set ?_ GE262.out)|exact HB.out)⟩⟩
       ·rw [if_neg c47] at H
        have c47b0 : decide (t245 < 1) = false:=decide_eq_false c47
        clear c47
        by_cases c52 : t245 > a0_0
        ·rw [if_pos c52] at H
         have c52b0 : decide (a0_0 < t245) = true:=decide_eq_true c52
         clear c52
         have H':=Aside0.mk H
         clear H
         have hnb53:=NB253_243.out
         have hnc53:=NB243_253.out
         have hnb54:=NB253_244.out
         have hnc54:=NB244_253.out
         have hnb55:=NB253_262.out
         have hnc55:=NB262_253.out
         have hcz56_0 : wc.cell? ⟨gb253,0,none⟩ = some (.int .i64 t245):=(blk_cell BK253.out 0).trans rfl
         have hcz56_1 : wc.cell? ⟨gb253,1,none⟩ = some (.int .i64 t246):=(blk_cell BK253.out 1).trans rfl
         have hcz56_2 : wc.cell? ⟨gb253,2,none⟩ = some (.slice Ao16 t247.length co16):=(blk_cell BK253.out 2).trans rfl
         have hcz56_3 : wc.cell? ⟨gb253,3,none⟩ = some (.int .i64 t250):=(blk_cell BK253.out 3).trans rfl
         have hcz56_4 : wc.cell? ⟨gb253,4,none⟩ = some (.int .u32 t251):=(blk_cell BK253.out 4).trans rfl
         have hfz56_0:=blk_frozen BK253.out 0
         have hfz56_1:=blk_frozen BK253.out 1
         have hfz56_2:=blk_frozen BK253.out 2
         have hfz56_3:=blk_frozen BK253.out 3
         have hfz56_4:=blk_frozen BK253.out 4
         have hnb57:=NB243_244.out
         have hnc57:=NB244_243.out
         have hnb58:=NB243_262.out
         have hnc58:=NB262_243.out
         have hcz59_0 : wc.cell? ⟨gb243,0,none⟩ = some (.int .i64 a0_0):=(blk_cell BK243.out 0).trans rfl
         have hcz59_1 : wc.cell? ⟨gb243,1,none⟩ = some (.int .i64 a0_1):=(blk_cell BK243.out 1).trans rfl
         have hcz59_2 : wc.cell? ⟨gb243,2,none⟩ = some (.slice A0_2 l0_2.length c0_2):=(blk_cell BK243.out 2).trans rfl
         have hcz59_3 : wc.cell? ⟨gb243,3,none⟩ = some (.int .i64 a0_3):=(blk_cell BK243.out 3).trans rfl
         have hcz59_4 : wc.cell? ⟨gb243,4,none⟩ = some (.int .u32 a0_4):=(blk_cell BK243.out 4).trans rfl
         have hfz59_0:=blk_frozen BK243.out 0
         have hfz59_1:=blk_frozen BK243.out 1
         have hfz59_2:=blk_frozen BK243.out 2
         have hfz59_3:=blk_frozen BK243.out 3
         have hfz59_4:=blk_frozen BK243.out 4
         go_wp2
         go_meet
         case rel=>exact ⟨_,(true),(by first|rfl|(simp;done)|(simp [*];done)),H',⟨by have:=HJ5.out;first|omega|exact Nat.le_refl _⟩,⟨by (with_reducible repeat (first|apply Kd.S_alloc|apply Kd.S_drewN|apply Kd.S_drew));exact HO_254002.out⟩,⟨by (with_reducible repeat (first|apply Kd.S_alloc|apply Kd.S_drewN|apply Kd.S_drew));exact HO_263002.out⟩,⟨by (with_reducible repeat (first|refine blk_drewN ?_ _|refine blk_drew ?_|refine blk_alloc ?_ _));exact BK243.out⟩,⟨by (with_reducible repeat (first|refine blk_drewN ?_ _|refine blk_drew ?_|refine blk_alloc ?_ _));exact BK244.out⟩,⟨by (with_reducible repeat (first|refine blk_drewN ?_ _|refine blk_drew ?_|refine blk_alloc ?_ _));exact BK253.out⟩,⟨by (with_reducible repeat (first|refine blk_drewN ?_ _|refine blk_drew ?_|refine blk_alloc ?_ _));exact BK262.out⟩,⟨by repeat (first|(with_reducible first|exact HB.out|apply below_alloc|apply pw_below_drewN|apply below_drew1|refine below_set ?_ GE243.out|refine below_set ?_ GE244.out|refine below_set ?_ GE253.out|refine below_set ?_ GE262.out)|exact HB.out)⟩⟩
        ·rw [if_neg c52] at H
         have c52b0 : decide (a0_0 < t245) = false:=decide_eq_false c52
         clear c52
         have H':=Aside0.mk H
         clear H
         have hnb60:=NB253_243.out
         have hnc60:=NB243_253.out
         have hnb61:=NB253_244.out
         have hnc61:=NB244_253.out
         have hnb62:=NB253_262.out
         have hnc62:=NB262_253.out
         have hcz63_0 : wc.cell? ⟨gb253,0,none⟩ = some (.int .i64 t245):=(blk_cell BK253.out 0).trans rfl
         have hcz63_1 : wc.cell? ⟨gb253,1,none⟩ = some (.int .i64 t246):=(blk_cell BK253.out 1).trans rfl
         have hcz63_2 : wc.cell? ⟨gb253,2,none⟩ = some (.slice Ao16 t247.length co16):=(blk_cell BK253.out 2).trans rfl
         have hcz63_3 : wc.cell? ⟨gb253,3,none⟩ = some (.int .i64 t250):=(blk_cell BK253.out 3).trans rfl
         have hcz63_4 : wc.cell? ⟨gb253,4,none⟩ = some (.int .u32 t251):=(blk_cell BK253.out 4).trans rfl
         have hfz63_0:=blk_frozen BK253.out 0
         have hfz63_1:=blk_frozen BK253.out 1
         have hfz63_2:=blk_frozen BK253.out 2
         have hfz63_3:=blk_frozen BK253.out 3
         have hfz63_4:=blk_frozen BK253.out 4
         have hnb64:=NB243_244.out
         have hnc64:=NB244_243.out
         have hnb65:=NB243_262.out
         have hnc65:=NB262_243.out
         have hcz66_0 : wc.cell? ⟨gb243,0,none⟩ = some (.int .i64 a0_0):=(blk_cell BK243.out 0).trans rfl
         have hcz66_1 : wc.cell? ⟨gb243,1,none⟩ = some (.int .i64 a0_1):=(blk_cell BK243.out 1).trans rfl
         have hcz66_2 : wc.cell? ⟨gb243,2,none⟩ = some (.slice A0_2 l0_2.length c0_2):=(blk_cell BK243.out 2).trans rfl
         have hcz66_3 : wc.cell? ⟨gb243,3,none⟩ = some (.int .i64 a0_3):=(blk_cell BK243.out 3).trans rfl
         have hcz66_4 : wc.cell? ⟨gb243,4,none⟩ = some (.int .u32 a0_4):=(blk_cell BK243.out 4).trans rfl
         have hfz66_0:=blk_frozen BK243.out 0
         have hfz66_1:=blk_frozen BK243.out 1
         have hfz66_2:=blk_frozen BK243.out 2
         have hfz66_3:=blk_frozen BK243.out 3
         have hfz66_4:=blk_frozen BK243.out 4
         have hnb67:=NB262_244.out
         have hnc67:=NB244_262.out
         have hcz68_0 : wc.cell? ⟨gb262,0,none⟩ = some (.int .i64 t254):=(blk_cell BK262.out 0).trans rfl
         have hcz68_1 : wc.cell? ⟨gb262,1,none⟩ = some (.int .i64 t255):=(blk_cell BK262.out 1).trans rfl
         have hcz68_2 : wc.cell? ⟨gb262,2,none⟩ = some (.slice Ao24 t256.length co24):=(blk_cell BK262.out 2).trans rfl
         have hcz68_3 : wc.cell? ⟨gb262,3,none⟩ = some (.int .i64 t259):=(blk_cell BK262.out 3).trans rfl
         have hcz68_4 : wc.cell? ⟨gb262,4,none⟩ = some (.int .u32 t260):=(blk_cell BK262.out 4).trans rfl
         have hfz68_0:=blk_frozen BK262.out 0
         have hfz68_1:=blk_frozen BK262.out 1
         have hfz68_2:=blk_frozen BK262.out 2
         have hfz68_3:=blk_frozen BK262.out 3
         have hfz68_4:=blk_frozen BK262.out 4
         have hcz69_0 : wc.cell? ⟨gb244,0,none⟩ = some (.int .i64 a1_0):=(blk_cell BK244.out 0).trans rfl
         have hcz69_1 : wc.cell? ⟨gb244,1,none⟩ = some (.int .i64 a1_1):=(blk_cell BK244.out 1).trans rfl
         have hcz69_2 : wc.cell? ⟨gb244,2,none⟩ = some (.slice A1_2 l1_2.length c1_2):=(blk_cell BK244.out 2).trans rfl
         have hcz69_3 : wc.cell? ⟨gb244,3,none⟩ = some (.int .i64 a1_3):=(blk_cell BK244.out 3).trans rfl
         have hcz69_4 : wc.cell? ⟨gb244,4,none⟩ = some (.int .u32 a1_4):=(blk_cell BK244.out 4).trans rfl
         have hfz69_0:=blk_frozen BK244.out 0
         have hfz69_1:=blk_frozen BK244.out 1
         have hfz69_2:=blk_frozen BK244.out 2
         have hfz69_3:=blk_frozen BK244.out 3
         have hfz69_4:=blk_frozen BK244.out 4
         go_wp2
         go_meet
         case rel=>exact ⟨_,(decide (t254 > a1_0)),(by first|rfl|(simp;done)|(simp [*];done)),H',⟨by have:=HJ5.out;first|omega|exact Nat.le_refl _⟩,⟨by (with_reducible repeat (first|apply Kd.S_alloc|apply Kd.S_drewN|apply Kd.S_drew));exact HO_254002.out⟩,⟨by (with_reducible repeat (first|apply Kd.S_alloc|apply Kd.S_drewN|apply Kd.S_drew));exact HO_263002.out⟩,⟨by (with_reducible repeat (first|refine blk_drewN ?_ _|refine blk_drew ?_|refine blk_alloc ?_ _));exact BK243.out⟩,⟨by (with_reducible repeat (first|refine blk_drewN ?_ _|refine blk_drew ?_|refine blk_alloc ?_ _));exact BK244.out⟩,⟨by (with_reducible repeat (first|refine blk_drewN ?_ _|refine blk_drew ?_|refine blk_alloc ?_ _));exact BK253.out⟩,⟨by (with_reducible repeat (first|refine blk_drewN ?_ _|refine blk_drew ?_|refine blk_alloc ?_ _));exact BK262.out⟩,⟨by repeat (first|(with_reducible first|exact HB.out|apply below_alloc|apply pw_below_drewN|apply below_drew1|refine below_set ?_ GE243.out|refine below_set ?_ GE244.out|refine below_set ?_ GE253.out|refine below_set ?_ GE262.out)|exact HB.out)⟩⟩
      ·rw [if_neg c46] at H
       have c46b0 : (t261 == 0) = false:=beq_eq_false_iff_ne.mpr c46
       have c46b1 : (t261 != 0) = true:=bne_iff_ne.mpr c46
       have H':=Aside0.mk H
       clear H
       go_wp2
       go_meet
       case rel=>exact ⟨_,(true),(by first|rfl|(simp;done)|(simp [*];done)),H',⟨by have:=HJ5.out;first|omega|exact Nat.le_refl _⟩,⟨by (with_reducible repeat (first|apply Kd.S_alloc|apply Kd.S_drewN|apply Kd.S_drew));exact HO_254002.out⟩,⟨by (with_reducible repeat (first|apply Kd.S_alloc|apply Kd.S_drewN|apply Kd.S_drew));exact HO_263002.out⟩,⟨by (with_reducible repeat (first|refine blk_drewN ?_ _|refine blk_drew ?_|refine blk_alloc ?_ _));exact BK243.out⟩,⟨by (with_reducible repeat (first|refine blk_drewN ?_ _|refine blk_drew ?_|refine blk_alloc ?_ _));exact BK244.out⟩,⟨by (with_reducible repeat (first|refine blk_drewN ?_ _|refine blk_drew ?_|refine blk_alloc ?_ _));exact BK253.out⟩,⟨by (with_reducible repeat (first|refine blk_drewN ?_ _|refine blk_drew ?_|refine blk_alloc ?_ _));exact BK262.out⟩,⟨by repeat (first|(with_reducible first|exact HB.out|apply below_alloc|apply pw_below_drewN|apply below_drew1|refine below_set ?_ GE243.out|refine below_set ?_ GE244.out|refine below_set ?_ GE253.out|refine below_set ?_ GE262.out)|exact HB.out)⟩⟩
     ·rw [if_neg c45] at H
      have c45b0 : (t252 == 0) = false:=beq_eq_false_iff_ne.mpr c45
      have c45b1 : (t252 != 0) = true:=bne_iff_ne.mpr c45
      (first|rw [c45b0]|(simp only [i64_w,i32_w];rw [c45b0])|skip)
      have H':=Aside0.mk H
      clear H
      go_wp2
      go_meet
      case rel=>exact ⟨_,(true),(by first|rfl|(simp;done)|(simp [*];done)),H',⟨by have:=HJ5.out;first|omega|exact Nat.le_refl _⟩,⟨by (with_reducible repeat (first|apply Kd.S_alloc|apply Kd.S_drewN|apply Kd.S_drew));exact HO_254002.out⟩,⟨by (with_reducible repeat (first|apply Kd.S_alloc|apply Kd.S_drewN|apply Kd.S_drew));exact HO_263002.out⟩,⟨by (with_reducible repeat (first|refine blk_drewN ?_ _|refine blk_drew ?_|refine blk_alloc ?_ _));exact BK243.out⟩,⟨by (with_reducible repeat (first|refine blk_drewN ?_ _|refine blk_drew ?_|refine blk_alloc ?_ _));exact BK244.out⟩,⟨by (with_reducible repeat (first|refine blk_drewN ?_ _|refine blk_drew ?_|refine blk_alloc ?_ _));exact BK253.out⟩,⟨by (with_reducible repeat (first|refine blk_drewN ?_ _|refine blk_drew ?_|refine blk_alloc ?_ _));exact BK262.out⟩,⟨by repeat (first|(with_reducible first|exact HB.out|apply below_alloc|apply pw_below_drewN|apply below_drew1|refine below_set ?_ GE243.out|refine below_set ?_ GE244.out|refine below_set ?_ GE253.out|refine below_set ?_ GE262.out)|exact HB.out)⟩⟩
    case rest =>
     clear HC44
     try clear c1
     try clear c2
     try clear p2
     try clear c3
     try clear c4
     try clear c5
     try clear c6
     try clear c9
     try clear c13
     try clear c14
     try clear c20
     try clear c21
     try clear c22
     try clear c26
     try clear c26b0
     try clear c26b1
     try clear c28
     try clear c29
     try clear c30
     try clear c31
     try clear c33
     try clear c34
     try clear c36
     try clear c37
     try clear c38
     try clear c39
     try clear c42
     try clear c43
     try clear c43b0
     try clear c43b1
     try clear c45
     try clear c45b0
     try clear c45b1
     try clear c46
     try clear c46b0
     try clear c46b1
     try clear c47
     try clear c47b0
     try clear c48
     try clear c49
     try clear c50
     try clear c52
     try clear c52b0
     try clear c53
     try clear c54
     try clear c55
     try clear c57
     try clear c58
     try clear c60
     try clear c61
     try clear c62
     try clear c64
     try clear c65
     try clear c67
     try clear hcz10_0
     try clear hcz10_1
     try clear hcz10_2
     try clear hcz10_3
     try clear hcz10_4
     try clear hcz15_0
     try clear hcz15_1
     try clear hcz15_2
     try clear hcz15_3
     try clear hcz15_4
     try clear hcz17_0
     try clear hcz17_1
     try clear hcz17_2
     try clear hcz17_3
     try clear hcz17_4
     try clear hcz23_0
     try clear hcz23_1
     try clear hcz23_2
     try clear hcz23_3
     try clear hcz23_4
     try clear hcz31_0
     try clear hcz31_1
     try clear hcz31_2
     try clear hcz31_3
     try clear hcz31_4
     try clear hcz35_0
     try clear hcz35_1
     try clear hcz35_2
     try clear hcz35_3
     try clear hcz35_4
     try clear hcz40_0
     try clear hcz40_1
     try clear hcz40_2
     try clear hcz40_3
     try clear hcz40_4
     try clear hcz51_0
     try clear hcz51_1
     try clear hcz51_2
     try clear hcz51_3
     try clear hcz51_4
     try clear hcz56_0
     try clear hcz56_1
     try clear hcz56_2
     try clear hcz56_3
     try clear hcz56_4
     try clear hcz59_0
     try clear hcz59_1
     try clear hcz59_2
     try clear hcz59_3
     try clear hcz59_4
     try clear hcz63_0
     try clear hcz63_1
     try clear hcz63_2
     try clear hcz63_3
     try clear hcz63_4
     try clear hcz66_0
     try clear hcz66_1
     try clear hcz66_2
     try clear hcz66_3
     try clear hcz66_4
     try clear hcz68_0
     try clear hcz68_1
     try clear hcz68_2
     try clear hcz68_3
     try clear hcz68_4
     try clear hcz69_0
     try clear hcz69_1
     try clear hcz69_2
     try clear hcz69_3
     try clear hcz69_4
     try clear hfz10_0
     try clear hfz10_1
     try clear hfz10_2
     try clear hfz10_3
     try clear hfz10_4
     try clear hfz15_0
     try clear hfz15_1
     try clear hfz15_2
     try clear hfz15_3
     try clear hfz15_4
     try clear hfz17_0
     try clear hfz17_1
     try clear hfz17_2
     try clear hfz17_3
     try clear hfz17_4
     try clear hfz23_0
     try clear hfz23_1
     try clear hfz23_2
     try clear hfz23_3
     try clear hfz23_4
     try clear hfz31_0
     try clear hfz31_1
     try clear hfz31_2
     try clear hfz31_3
     try clear hfz31_4
     try clear hfz35_0
     try clear hfz35_1
     try clear hfz35_2
     try clear hfz35_3
     try clear hfz35_4
     try clear hfz40_0
     try clear hfz40_1
     try clear hfz40_2
     try clear hfz40_3
     try clear hfz40_4
     try clear hfz51_0
     try clear hfz51_1
     try clear hfz51_2
     try clear hfz51_3
     try clear hfz51_4
     try clear hfz56_0
     try clear hfz56_1
     try clear hfz56_2
     try clear hfz56_3
     try clear hfz56_4
     try clear hfz59_0
     try clear hfz59_1
     try clear hfz59_2
     try clear hfz59_3
     try clear hfz59_4
     try clear hfz63_0
     try clear hfz63_1
     try clear hfz63_2
     try clear hfz63_3
     try clear hfz63_4
     try clear hfz66_0
     try clear hfz66_1
     try clear hfz66_2
     try clear hfz66_3
     try clear hfz66_4
     try clear hfz68_0
     try clear hfz68_1
     try clear hfz68_2
     try clear hfz68_3
     try clear hfz68_4
     try clear hfz69_0
     try clear hfz69_1
     try clear hfz69_2
     try clear hfz69_3
     try clear hfz69_4
     try clear p2
     obtain ⟨kq,x67_43,rfl,HA,HJ43,HO_254002,HO_263002,BK243,BK244,BK253,BK262,HB⟩:=hcut
     cases kq with
     | zero=>exact absurd HA.out (by simp [coppicerkeep_LeastFew.j1])
     | succ kj43 =>
      have H:=HA.out
      clear HA
      simp only [coppicerkeep_LeastFew.j1] at H
      by_cases c70 : x67_43 = true
      ·subst c70
       have H1 : (some false) = some r:=by rw [if_pos rfl] at H;exact H
       clear H
       have H:=H1
       clear H1
       obtain rfl:=Option.some.inj H
       go_wp2
       go_ret
       exact ⟨by first|rfl|(simp [errW_none,errW_some] <;> rfl)|(simp [*,errW_none,errW_some] <;> rfl),by repeat (first|(with_reducible first|exact HB.out|apply below_alloc|apply pw_below_drewN|apply below_drew1|refine below_set ?_ GE243.out|refine below_set ?_ GE244.out|refine below_set ?_ GE253.out|refine below_set ?_ GE262.out)|exact HB.out)⟩
      ·replace c70:=Bool.eq_false_iff.mpr c70
       subst c70
       have H1 : ((coppicerkeep_good.f kj43 a0_0 a0_1 l0_2 a0_3 a0_4 l2).bind fun t265=>(if t265 = true then ((machine_Run.f kj43 a0_0 a0_1 l0_2 a0_3 a0_4 l2).bind fun bt266=>((machine_Run.f kj43 t245 t246 t247 t250 t251 l2).bind fun bt269=>(if bt266.2.2 = 0 then (if bt269.2.2 = 0 then (if (bt266.2.1 != bt269.2.1) = true then (some false) else (coppicerkeep_LeastFew.j2 kj43 a0_0 a0_1 l0_2 a0_3 a0_4 a1_0 a1_1 l1_2 a1_3 a1_4 t245 t246 t247 t250 t251 t254 t255 t256 t259 t260)) else (some false)) else (some false)))) else (coppicerkeep_LeastFew.j2 kj43 a0_0 a0_1 l0_2 a0_3 a0_4 a1_0 a1_1 l1_2 a1_3 a1_4 t245 t246 t247 t250 t251 t254 t255 t256 t259 t260))) = some r:=by rw [if_neg (show ¬ (false = true) by decide)] at H;exact H
       clear H
       have H:=H1
       clear H1
       replace H:=Option.bind_eq_some_iff.mp H
       obtain ⟨t265,A710,H⟩:=H
       replace H : (if t265 = true then ((machine_Run.f kj43 a0_0 a0_1 l0_2 a0_3 a0_4 l2).bind fun bt266=>((machine_Run.f kj43 t245 t246 t247 t250 t251 l2).bind fun bt269=>(if bt266.2.2 = 0 then (if bt269.2.2 = 0 then (if (bt266.2.1 != bt269.2.1) = true then (some false) else (coppicerkeep_LeastFew.j2 kj43 a0_0 a0_1 l0_2 a0_3 a0_4 a1_0 a1_1 l1_2 a1_3 a1_4 t245 t246 t247 t250 t251 t254 t255 t256 t259 t260)) else (some false)) else (some false)))) else (coppicerkeep_LeastFew.j2 kj43 a0_0 a0_1 l0_2 a0_3 a0_4 a1_0 a1_1 l1_2 a1_3 a1_4 t245 t246 t247 t250 t251 t254 t255 t256 t259 t260)) = some r:=H
       have A71:=Aside0.mk A710
       clear A710
       have HC72:=Aside0.mk H
       clear H
       have hnb73:=NB243_244.out
       have hnc73:=NB244_243.out
       have hnb74:=NB243_253.out
       have hnc74:=NB253_243.out
       have hnb75:=NB243_262.out
       have hnc75:=NB262_243.out
       have hcz76_0 : wc.cell? ⟨gb243,0,none⟩ = some (.int .i64 a0_0):=(blk_cell BK243.out 0).trans rfl
       have hcz76_1 : wc.cell? ⟨gb243,1,none⟩ = some (.int .i64 a0_1):=(blk_cell BK243.out 1).trans rfl
       have hcz76_2 : wc.cell? ⟨gb243,2,none⟩ = some (.slice A0_2 l0_2.length c0_2):=(blk_cell BK243.out 2).trans rfl
       have hcz76_3 : wc.cell? ⟨gb243,3,none⟩ = some (.int .i64 a0_3):=(blk_cell BK243.out 3).trans rfl
       have hcz76_4 : wc.cell? ⟨gb243,4,none⟩ = some (.int .u32 a0_4):=(blk_cell BK243.out 4).trans rfl
       have hfz76_0:=blk_frozen BK243.out 0
       have hfz76_1:=blk_frozen BK243.out 1
       have hfz76_2:=blk_frozen BK243.out 2
       have hfz76_3:=blk_frozen BK243.out 3
       have hfz76_4:=blk_frozen BK243.out 4
       go_upto_if 70 with (first|((with_reducible refine gate_callee (f:=19) rfl ?_);refine goesL_ (some 70) rfl rfl Try.func19 (by kernel_rfl) rfl #[.agg #[.int .i64 a0_0,.int .i64 a0_1,.slice A0_2 l0_2.length c0_2,.int .i64 a0_3,.int .u32 a0_4],.slice A2 l2.length c2] rfl (by (try simp only [List.map_toArray,List.map_cons,List.map_nil]);first|done|rfl|(simp only [List.length_drop,List.length_take];rfl)) ?_;(with_reducible refine (coppicerkeep_good.calls kj43 a0_0 a0_1 _ _ l0_2 a0_3 a0_4 _ _ l2 t265 _ ?side1 ?side2 ?side3 ?side4 A71.out).mono ?_);(case side1=>repeat (first|exact (Kd.C_below HR0_2.out HB.out)|(with_reducible refine Kd.C_alloc ?_ _)|(with_reducible refine Kd.C_drewN ?_ _)|(with_reducible refine Kd.C_drew ?_)));(case side2=>exact HC0_2.out);(case side3=>repeat (first|exact (Kd.C_below HR2.out HB.out)|(with_reducible refine Kd.C_alloc ?_ _)|(with_reducible refine Kd.C_drewN ?_ _)|(with_reducible refine Kd.C_drew ?_)));(case side4=>exact HC2.out);rintro e w77 ⟨rfl,hb⟩;refine ⟨_,rfl,?_⟩;have n0_:=Aside0.mk (Kd.S_below (by (with_reducible repeat (first|apply Kd.S_alloc|apply Kd.S_drewN|apply Kd.S_drew));exact HO_254002.out) hb);have n1_:=Aside0.mk (Kd.S_below (by (with_reducible repeat (first|apply Kd.S_alloc|apply Kd.S_drewN|apply Kd.S_drew));exact HO_263002.out) hb);have n2_:=Aside0.mk (blk_below (g:=gb243) (o:=.cells #[.int .i64 a0_0,.int .i64 a0_1,.slice A0_2 l0_2.length c0_2,.int .i64 a0_3,.int .u32 a0_4] 37 (0,0)) (by (with_reducible repeat (first|refine blk_drewN ?_ _|refine blk_drew ?_|refine blk_alloc ?_ _));exact BK243.out) hb);have n3_:=Aside0.mk (blk_below (g:=gb244) (o:=.cells #[.int .i64 a1_0,.int .i64 a1_1,.slice A1_2 l1_2.length c1_2,.int .i64 a1_3,.int .u32 a1_4] 37 (0,0)) (by (with_reducible repeat (first|refine blk_drewN ?_ _|refine blk_drew ?_|refine blk_alloc ?_ _));exact BK244.out) hb);have n4_:=Aside0.mk (blk_below (g:=gb253) (o:=.cells #[.int .i64 t245,.int .i64 t246,.slice Ao16 t247.length co16,.int .i64 t250,.int .u32 t251] 37 (0,0)) (by (with_reducible repeat (first|refine blk_drewN ?_ _|refine blk_drew ?_|refine blk_alloc ?_ _));exact BK253.out) hb);have n5_:=Aside0.mk (blk_below (g:=gb262) (o:=.cells #[.int .i64 t254,.int .i64 t255,.slice Ao24 t256.length co24,.int .i64 t259,.int .u32 t260] 37 (0,0)) (by (with_reducible repeat (first|refine blk_drewN ?_ _|refine blk_drew ?_|refine blk_alloc ?_ _));exact BK262.out) hb);have n6_:=Aside0.mk (below_step (by repeat (first|(with_reducible first|exact HB.out|apply below_alloc|apply pw_below_drewN|apply below_drew1|refine below_set ?_ GE243.out|refine below_set ?_ GE244.out|refine below_set ?_ GE253.out|refine below_set ?_ GE262.out)|exact HB.out)) hb);clear HO_254002;clear HO_263002;clear BK243;clear BK244;clear BK253;clear BK262;clear HB;have HO_254002:=n0_;have HO_263002:=n1_;have BK243:=n2_;have BK244:=n3_;have BK253:=n4_;have BK262:=n5_;have HB:=n6_;clear n0_ n1_ n2_ n3_ n4_ n5_ n6_;(try clear hb);(try clear hb2);(try clear hk);(try clear hi)))
       (try simp only [Act.put,List.setIfInBounds_toArray,List.set_cons_zero,List.set_cons_succ])
       go_cut [] (fun wc=>∃ (kq : Nat),Aside0 (coppicerkeep_LeastFew.j2 kq a0_0 a0_1 l0_2 a0_3 a0_4 a1_0 a1_1 l1_2 a1_3 a1_4 t245 t246 t247 t250 t251 t254 t255 t256 t259 t260 = some r) ∧ Aside0 (kq ≤ kj43) ∧ Aside0 (Kd.S (Kd.slice 3 (Kd.int .i64)) 28 wc w.heap.size (fun k_=>some k_ ≠ ((.slice Ao24 t256.length co24) : Value).ownBlock) (.slice Ao16 t247.length co16) t247) ∧ Aside0 (Kd.S (Kd.slice 3 (Kd.int .i64)) 28 wc w.heap.size (fun k_=>some k_ ≠ ((.slice Ao16 t247.length co16) : Value).ownBlock) (.slice Ao24 t256.length co24) t256) ∧ Aside0 (wc.heap[gb243]? = some (.cells #[.int .i64 a0_0,.int .i64 a0_1,(.slice A0_2 l0_2.length c0_2),.int .i64 a0_3,.int .u32 a0_4] 37 (0,0))) ∧ Aside0 (wc.heap[gb244]? = some (.cells #[.int .i64 a1_0,.int .i64 a1_1,(.slice A1_2 l1_2.length c1_2),.int .i64 a1_3,.int .u32 a1_4] 37 (0,0))) ∧ Aside0 (wc.heap[gb253]? = some (.cells #[.int .i64 t245,.int .i64 t246,(.slice Ao16 t247.length co16),.int .i64 t250,.int .u32 t251] 37 (0,0))) ∧ Aside0 (wc.heap[gb262]? = some (.cells #[.int .i64 t254,.int .i64 t255,(.slice Ao24 t256.length co24),.int .i64 t259,.int .u32 t260] 37 (0,0))) ∧ Aside0 (Below w.heap.size w wc))
       case first =>
        have H:=HC72.out
        clear HC72
        by_cases c78 : t265 = true
        ·subst c78
         have H1 : ((machine_Run.f kj43 a0_0 a0_1 l0_2 a0_3 a0_4 l2).bind fun bt266=>((machine_Run.f kj43 t245 t246 t247 t250 t251 l2).bind fun bt269=>(if bt266.2.2 = 0 then (if bt269.2.2 = 0 then (if (bt266.2.1 != bt269.2.1) = true then (some false) else (coppicerkeep_LeastFew.j2 kj43 a0_0 a0_1 l0_2 a0_3 a0_4 a1_0 a1_1 l1_2 a1_3 a1_4 t245 t246 t247 t250 t251 t254 t255 t256 t259 t260)) else (some false)) else (some false)))) = some r:=by rw [if_pos rfl] at H;exact H
         clear H
         have H:=H1
         clear H1
         replace H:=Option.bind_eq_some_iff.mp H
         obtain ⟨⟨t266,t267,t268⟩,A790,H⟩:=H
         replace H : ((machine_Run.f kj43 t245 t246 t247 t250 t251 l2).bind fun bt269=>(if t268 = 0 then (if bt269.2.2 = 0 then (if (t267 != bt269.2.1) = true then (some false) else (coppicerkeep_LeastFew.j2 kj43 a0_0 a0_1 l0_2 a0_3 a0_4 a1_0 a1_1 l1_2 a1_3 a1_4 t245 t246 t247 t250 t251 t254 t255 t256 t259 t260)) else (some false)) else (some false))) = some r:=H
         have A79:=Aside0.mk A790
         clear A790
         replace H:=Option.bind_eq_some_iff.mp H
         obtain ⟨⟨t269,t270,t271⟩,A800,H⟩:=H
         replace H : (if t268 = 0 then (if t271 = 0 then (if (t267 != t270) = true then (some false) else (coppicerkeep_LeastFew.j2 kj43 a0_0 a0_1 l0_2 a0_3 a0_4 a1_0 a1_1 l1_2 a1_3 a1_4 t245 t246 t247 t250 t251 t254 t255 t256 t259 t260)) else (some false)) else (some false)) = some r:=H
         have A80:=Aside0.mk A800
         clear A800
         by_cases c81 : t268 = 0
         ·rw [if_pos c81] at H
          have c81b0 : (t268 == 0) = true:=beq_iff_eq.mpr c81
          have c81b1 : (t268 != 0) = false:=bne_eq_false_iff_eq.mpr c81
          clear c81
          (first|rw [c81b0]|(simp only [i64_w,i32_w];rw [c81b0])|skip)
          by_cases c82 : t271 = 0
          ·rw [if_pos c82] at H
           have c82b0 : (t271 == 0) = true:=beq_iff_eq.mpr c82
           have c82b1 : (t271 != 0) = false:=bne_eq_false_iff_eq.mpr c82
           clear c82
           by_cases c83 : (t267 != t270) = true
           ·rw [if_pos c83] at H
            have c83b0 : (t267 != t270) = true:=c83
            (try (have c83b1 : decide (t267 = t270) = false:=by simpa using c83))
            (try (have c83b2 : (t267 == t270) = false:=by simpa using c83))
            (try (have c83b3 : ¬ (t267 = t270):=by simpa using c83))
            clear c83
            obtain rfl:=Option.some.inj H
            have hnb84:=NB243_244.out
            have hnc84:=NB244_243.out
            have hnb85:=NB243_253.out
            have hnc85:=NB253_243.out
            have hnb86:=NB243_262.out
            have hnc86:=NB262_243.out
            have hcz87_0 : w77.cell? ⟨gb243,0,none⟩ = some (.int .i64 a0_0):=(blk_cell BK243.out 0).trans rfl
            have hcz87_1 : w77.cell? ⟨gb243,1,none⟩ = some (.int .i64 a0_1):=(blk_cell BK243.out 1).trans rfl
            have hcz87_2 : w77.cell? ⟨gb243,2,none⟩ = some (.slice A0_2 l0_2.length c0_2):=(blk_cell BK243.out 2).trans rfl
            have hcz87_3 : w77.cell? ⟨gb243,3,none⟩ = some (.int .i64 a0_3):=(blk_cell BK243.out 3).trans rfl
            have hcz87_4 : w77.cell? ⟨gb243,4,none⟩ = some (.int .u32 a0_4):=(blk_cell BK243.out 4).trans rfl
            have hfz87_0:=blk_frozen BK243.out 0
            have hfz87_1:=blk_frozen BK243.out 1
            have hfz87_2:=blk_frozen BK243.out 2
            have hfz87_3:=blk_frozen BK243.out 3
            have hfz87_4:=blk_frozen BK243.out 4
            go_wp2_with (first|((with_reducible refine gate_callee (f:=18) rfl ?_);refine goesL_ (some 74) rfl rfl Try.func18 (by kernel_rfl) rfl #[.agg #[.int .i64 a0_0,.int .i64 a0_1,.slice A0_2 l0_2.length c0_2,.int .i64 a0_3,.int .u32 a0_4],.slice A2 l2.length c2] rfl (by (try simp only [List.map_toArray,List.map_cons,List.map_nil]);first|done|rfl|(simp only [List.length_drop,List.length_take];rfl)) ?_;(with_reducible refine (machine_Run.calls kj43 a0_0 a0_1 _ _ l0_2 a0_3 a0_4 _ _ l2 t266 t267 t268 _ ?side1 ?side2 ?side3 ?side4 A79.out).mono ?_);(case side1=>repeat (first|exact (Kd.C_below HR0_2.out HB.out)|(with_reducible refine Kd.C_alloc ?_ _)|(with_reducible refine Kd.C_drewN ?_ _)|(with_reducible refine Kd.C_drew ?_)));(case side2=>exact HC0_2.out);(case side3=>repeat (first|exact (Kd.C_below HR2.out HB.out)|(with_reducible refine Kd.C_alloc ?_ _)|(with_reducible refine Kd.C_drewN ?_ _)|(with_reducible refine Kd.C_drew ?_)));(case side4=>exact HC2.out);rintro e w88 ⟨rfl,hb⟩;refine ⟨_,rfl,?_⟩;have n0_:=Aside0.mk (Kd.S_below (by (with_reducible repeat (first|apply Kd.S_alloc|apply Kd.S_drewN|apply Kd.S_drew));exact HO_254002.out) hb);have n1_:=Aside0.mk (Kd.S_below (by (with_reducible repeat (first|apply Kd.S_alloc|apply Kd.S_drewN|apply Kd.S_drew));exact HO_263002.out) hb);have n2_:=Aside0.mk (blk_below (g:=gb243) (o:=.cells #[.int .i64 a0_0,.int .i64 a0_1,.slice A0_2 l0_2.length c0_2,.int .i64 a0_3,.int .u32 a0_4] 37 (0,0)) (by (with_reducible repeat (first|refine blk_drewN ?_ _|refine blk_drew ?_|refine blk_alloc ?_ _));exact BK243.out) hb);have n3_:=Aside0.mk (blk_below (g:=gb244) (o:=.cells #[.int .i64 a1_0,.int .i64 a1_1,.slice A1_2 l1_2.length c1_2,.int .i64 a1_3,.int .u32 a1_4] 37 (0,0)) (by (with_reducible repeat (first|refine blk_drewN ?_ _|refine blk_drew ?_|refine blk_alloc ?_ _));exact BK244.out) hb);have n4_:=Aside0.mk (blk_below (g:=gb253) (o:=.cells #[.int .i64 t245,.int .i64 t246,.slice Ao16 t247.length co16,.int .i64 t250,.int .u32 t251] 37 (0,0)) (by (with_reducible repeat (first|refine blk_drewN ?_ _|refine blk_drew ?_|refine blk_alloc ?_ _));exact BK253.out) hb);have n5_:=Aside0.mk (blk_below (g:=gb262) (o:=.cells #[.int .i64 t254,.int .i64 t255,.slice Ao24 t256.length co24,.int .i64 t259,.int .u32 t260] 37 (0,0)) (by (with_reducible repeat (first|refine blk_drewN ?_ _|refine blk_drew ?_|refine blk_alloc ?_ _));exact BK262.out) hb);have n6_:=Aside0.mk (below_step (by repeat (first|(with_reducible first|exact HB.out|apply below_alloc|apply pw_below_drewN|apply below_drew1|refine below_set ?_ GE243.out|refine below_set ?_ GE244.out|refine below_set ?_ GE253.out|refine below_set ?_ GE262.out)|exact HB.out)) hb);clear HO_254002;clear HO_263002;clear BK243;clear BK244;clear BK253;clear BK262;clear HB;have HO_254002:=n0_;have HO_263002:=n1_;have BK243:=n2_;have BK244:=n3_;have BK253:=n4_;have BK262:=n5_;have HB:=n6_;clear n0_ n1_ n2_ n3_ n4_ n5_ n6_;(try clear hb);(try clear hb2);(try clear hk);(try clear hi);have hnb89:=NB253_244.out;have hnc89:=NB244_253.out;have hnb90:=NB253_262.out;have hnc90:=NB262_253.out;have hcz91_0 : w88.cell? ⟨gb253,0,none⟩ = some (.int .i64 t245):=(blk_cell BK253.out 0).trans rfl;have hcz91_1 : w88.cell? ⟨gb253,1,none⟩ = some (.int .i64 t246):=(blk_cell BK253.out 1).trans rfl;have hcz91_2 : w88.cell? ⟨gb253,2,none⟩ = some (.slice Ao16 t247.length co16):=(blk_cell BK253.out 2).trans rfl;have hcz91_3 : w88.cell? ⟨gb253,3,none⟩ = some (.int .i64 t250):=(blk_cell BK253.out 3).trans rfl;have hcz91_4 : w88.cell? ⟨gb253,4,none⟩ = some (.int .u32 t251):=(blk_cell BK253.out 4).trans rfl;have hfz91_0:=blk_frozen BK253.out 0;have hfz91_1:=blk_frozen BK253.out 1;have hfz91_2:=blk_frozen BK253.out 2;have hfz91_3:=blk_frozen BK253.out 3;have hfz91_4:=blk_frozen BK253.out 4)|((with_reducible refine gate_callee (f:=18) rfl ?_);refine goesL_ (some 81) rfl rfl Try.func18 (by kernel_rfl) rfl #[.agg #[.int .i64 t245,.int .i64 t246,.slice Ao16 t247.length co16,.int .i64 t250,.int .u32 t251],.slice A2 l2.length c2] rfl (by (try simp only [List.map_toArray,List.map_cons,List.map_nil]);first|done|rfl|(simp only [List.length_drop,List.length_take];rfl)) ?_;(with_reducible refine (machine_Run.calls kj43 t245 t246 _ _ t247 t250 t251 _ _ l2 t269 t270 t271 _ ?side1 ?side2 ?side3 ?side4 A80.out).mono ?_);(case side1=>repeat (first|exact (Kd.S_reads' HO_254002.out).2.2|(with_reducible refine Kd.C_alloc ?_ _)|(with_reducible refine Kd.C_drewN ?_ _)|(with_reducible refine Kd.C_drew ?_)));(case side2=>exact (Kd.S_reads' HO_254002.out).2.1);(case side3=>repeat (first|exact (Kd.C_below HR2.out HB.out)|(with_reducible refine Kd.C_alloc ?_ _)|(with_reducible refine Kd.C_drewN ?_ _)|(with_reducible refine Kd.C_drew ?_)));(case side4=>exact HC2.out);rintro e w92 ⟨rfl,hb⟩;refine ⟨_,rfl,?_⟩;have n0_:=Aside0.mk (Kd.S_below (by (with_reducible repeat (first|apply Kd.S_alloc|apply Kd.S_drewN|apply Kd.S_drew));exact HO_254002.out) hb);have n1_:=Aside0.mk (Kd.S_below (by (with_reducible repeat (first|apply Kd.S_alloc|apply Kd.S_drewN|apply Kd.S_drew));exact HO_263002.out) hb);have n2_:=Aside0.mk (blk_below (g:=gb243) (o:=.cells #[.int .i64 a0_0,.int .i64 a0_1,.slice A0_2 l0_2.length c0_2,.int .i64 a0_3,.int .u32 a0_4] 37 (0,0)) (by (with_reducible repeat (first|refine blk_drewN ?_ _|refine blk_drew ?_|refine blk_alloc ?_ _));exact BK243.out) hb);have n3_:=Aside0.mk (blk_below (g:=gb244) (o:=.cells #[.int .i64 a1_0,.int .i64 a1_1,.slice A1_2 l1_2.length c1_2,.int .i64 a1_3,.int .u32 a1_4] 37 (0,0)) (by (with_reducible repeat (first|refine blk_drewN ?_ _|refine blk_drew ?_|refine blk_alloc ?_ _));exact BK244.out) hb);have n4_:=Aside0.mk (blk_below (g:=gb253) (o:=.cells #[.int .i64 t245,.int .i64 t246,.slice Ao16 t247.length co16,.int .i64 t250,.int .u32 t251] 37 (0,0)) (by (with_reducible repeat (first|refine blk_drewN ?_ _|refine blk_drew ?_|refine blk_alloc ?_ _));exact BK253.out) hb);have n5_:=Aside0.mk (blk_below (g:=gb262) (o:=.cells #[.int .i64 t254,.int .i64 t255,.slice Ao24 t256.length co24,.int .i64 t259,.int .u32 t260] 37 (0,0)) (by (with_reducible repeat (first|refine blk_drewN ?_ _|refine blk_drew ?_|refine blk_alloc ?_ _));exact BK262.out) hb);have n6_:=Aside0.mk (below_step (by repeat (first|(with_reducible first|exact HB.out|apply below_alloc|apply pw_below_drewN|apply below_drew1|refine below_set ?_ GE243.out|refine below_set ?_ GE244.out|refine below_set ?_ GE253.out|refine below_set ?_ GE262.out)|exact HB.out)) hb);clear HO_254002;clear HO_263002;clear BK243;clear BK244;clear BK253;clear BK262;clear HB;have HO_254002:=n0_;have HO_263002:=n1_;have BK243:=n2_;have BK244:=n3_;have BK253:=n4_;have BK262:=n5_;have HB:=n6_;clear n0_ n1_ n2_ n3_ n4_ n5_ n6_;(try clear hb);(try clear hb2);(try clear hk);(try clear hi)))
            go_ret
            exact ⟨by first|rfl|(simp [errW_none,errW_some] <;> rfl)|(simp [*,errW_none,errW_some] <;> rfl),by repeat (first|(with_reducible first|exact HB.out|apply below_alloc|apply pw_below_drewN|apply below_drew1|refine below_set ?_ GE243.out|refine below_set ?_ GE244.out|refine below_set ?_ GE253.out|refine below_set ?_ GE262.out)|exact HB.out)⟩
           ·rw [if_neg c83] at H
            have c83b0 : (t267 != t270) = false:=by simpa using c83
            (try (have c83b1 : decide (t267 = t270) = true:=by simpa using c83))
            (try (have c83b2 : (t267 == t270) = true:=by simpa using c83))
            clear c83
            have H':=Aside0.mk H
            clear H
            have hnb93:=NB243_244.out
            have hnc93:=NB244_243.out
            have hnb94:=NB243_253.out
            have hnc94:=NB253_243.out
            have hnb95:=NB243_262.out
            have hnc95:=NB262_243.out
            have hcz96_0 : w77.cell? ⟨gb243,0,none⟩ = some (.int .i64 a0_0):=(blk_cell BK243.out 0).trans rfl
            have hcz96_1 : w77.cell? ⟨gb243,1,none⟩ = some (.int .i64 a0_1):=(blk_cell BK243.out 1).trans rfl
            have hcz96_2 : w77.cell? ⟨gb243,2,none⟩ = some (.slice A0_2 l0_2.length c0_2):=(blk_cell BK243.out 2).trans rfl
            have hcz96_3 : w77.cell? ⟨gb243,3,none⟩ = some (.int .i64 a0_3):=(blk_cell BK243.out 3).trans rfl
            have hcz96_4 : w77.cell? ⟨gb243,4,none⟩ = some (.int .u32 a0_4):=(blk_cell BK243.out 4).trans rfl
            have hfz96_0:=blk_frozen BK243.out 0
            have hfz96_1:=blk_frozen BK243.out 1
            have hfz96_2:=blk_frozen BK243.out 2
            have hfz96_3:=blk_frozen BK243.out 3
            have hfz96_4:=blk_frozen BK243.out 4
            go_wp2_with (first|((with_reducible refine gate_callee (f:=18) rfl ?_);refine goesL_ (some 74) rfl rfl Try.func18 (by kernel_rfl) rfl #[.agg #[.int .i64 a0_0,.int .i64 a0_1,.slice A0_2 l0_2.length c0_2,.int .i64 a0_3,.int .u32 a0_4],.slice A2 l2.length c2] rfl (by (try simp only [List.map_toArray,List.map_cons,List.map_nil]);first|done|rfl|(simp only [List.length_drop,List.length_take];rfl)) ?_;(with_reducible refine (machine_Run.calls kj43 a0_0 a0_1 _ _ l0_2 a0_3 a0_4 _ _ l2 t266 t267 t268 _ ?side1 ?side2 ?side3 ?side4 A79.out).mono ?_);(case side1=>repeat (first|exact (Kd.C_below HR0_2.out HB.out)|(with_reducible refine Kd.C_alloc ?_ _)|(with_reducible refine Kd.C_drewN ?_ _)|(with_reducible refine Kd.C_drew ?_)));(case side2=>exact HC0_2.out);(case side3=>repeat (first|exact (Kd.C_below HR2.out HB.out)|(with_reducible refine Kd.C_alloc ?_ _)|(with_reducible refine Kd.C_drewN ?_ _)|(with_reducible refine Kd.C_drew ?_)));(case side4=>exact HC2.out);rintro e w97 ⟨rfl,hb⟩;refine ⟨_,rfl,?_⟩;have n0_:=Aside0.mk (Kd.S_below (by (with_reducible repeat (first|apply Kd.S_alloc|apply Kd.S_drewN|apply Kd.S_drew));exact HO_254002.out) hb);have n1_:=Aside0.mk (Kd.S_below (by (with_reducible repeat (first|apply Kd.S_alloc|apply Kd.S_drewN|apply Kd.S_drew));exact HO_263002.out) hb);have n2_:=Aside0.mk (blk_below (g:=gb243) (o:=.cells #[.int .i64 a0_0,.int .i64 a0_1,.slice A0_2 l0_2.length c0_2,.int .i64 a0_3,.int .u32 a0_4] 37 (0,0)) (by (with_reducible repeat (first|refine blk_drewN ?_ _|refine blk_drew ?_|refine blk_alloc ?_ _));exact BK243.out) hb);have n3_:=Aside0.mk (blk_below (g:=gb244) (o:=.cells #[.int .i64 a1_0,.int .i64 a1_1,.slice A1_2 l1_2.length c1_2,.int .i64 a1_3,.int .u32 a1_4] 37 (0,0)) (by (with_reducible repeat (first|refine blk_drewN ?_ _|refine blk_drew ?_|refine blk_alloc ?_ _));exact BK244.out) hb);have n4_:=Aside0.mk (blk_below (g:=gb253) (o:=.cells #[.int .i64 t245,.int .i64 t246,.slice Ao16 t247.length co16,.int .i64 t250,.int .u32 t251] 37 (0,0)) (by (with_reducible repeat (first|refine blk_drewN ?_ _|refine blk_drew ?_|refine blk_alloc ?_ _));exact BK253.out) hb);have n5_:=Aside0.mk (blk_below (g:=gb262) (o:=.cells #[.int .i64 t254,.int .i64 t255,.slice Ao24 t256.length co24,.int .i64 t259,.int .u32 t260] 37 (0,0)) (by (with_reducible repeat (first|refine blk_drewN ?_ _|refine blk_drew ?_|refine blk_alloc ?_ _));exact BK262.out) hb);have n6_:=Aside0.mk (below_step (by repeat (first|(with_reducible first|exact HB.out|apply below_alloc|apply pw_below_drewN|apply below_drew1|refine below_set ?_ GE243.out|refine below_set ?_ GE244.out|refine below_set ?_ GE253.out|refine below_set ?_ GE262.out)|exact HB.out)) hb);clear HO_254002;clear HO_263002;clear BK243;clear BK244;clear BK253;clear BK262;clear HB;have HO_254002:=n0_;have HO_263002:=n1_;have BK243:=n2_;have BK244:=n3_;have BK253:=n4_;have BK262:=n5_;have HB:=n6_;clear n0_ n1_ n2_ n3_ n4_ n5_ n6_;(try clear hb);(try clear hb2);(try clear hk);(try clear hi);have hnb98:=NB253_244.out;have hnc98:=NB244_253.out;have hnb99:=NB253_262.out;have hnc99:=NB262_253.out;have hcz100_0 : w97.cell? ⟨gb253,0,none⟩ = some (.int .i64 t245):=(blk_cell BK253.out 0).trans rfl;have hcz100_1 : w97.cell? ⟨gb253,1,none⟩ = some (.int .i64 t246):=(blk_cell BK253.out 1).trans rfl;have hcz100_2 : w97.cell? ⟨gb253,2,none⟩ = some (.slice Ao16 t247.length co16):=(blk_cell BK253.out 2).trans rfl;have hcz100_3 : w97.cell? ⟨gb253,3,none⟩ = some (.int .i64 t250):=(blk_cell BK253.out 3).trans rfl;have hcz100_4 : w97.cell? ⟨gb253,4,none⟩ = some (.int .u32 t251):=(blk_cell BK253.out 4).trans rfl;have hfz100_0:=blk_frozen BK253.out 0;have hfz100_1:=blk_frozen BK253.out 1;have hfz100_2:=blk_frozen BK253.out 2;have hfz100_3:=blk_frozen BK253.out 3;have hfz100_4:=blk_frozen BK253.out 4)|((with_reducible refine gate_callee (f:=18) rfl ?_);refine goesL_ (some 81) rfl rfl Try.func18 (by kernel_rfl) rfl #[.agg #[.int .i64 t245,.int .i64 t246,.slice Ao16 t247.length co16,.int .i64 t250,.int .u32 t251],.slice A2 l2.length c2] rfl (by (try simp only [List.map_toArray,List.map_cons,List.map_nil]);first|done|rfl|(simp only [List.length_drop,List.length_take];rfl)) ?_;(with_reducible refine (machine_Run.calls kj43 t245 t246 _ _ t247 t250 t251 _ _ l2 t269 t270 t271 _ ?side1 ?side2 ?side3 ?side4 A80.out).mono ?_);(case side1=>repeat (first|exact (Kd.S_reads' HO_254002.out).2.2|(with_reducible refine Kd.C_alloc ?_ _)|(with_reducible refine Kd.C_drewN ?_ _)|(with_reducible refine Kd.C_drew ?_)));(case side2=>exact (Kd.S_reads' HO_254002.out).2.1);(case side3=>repeat (first|exact (Kd.C_below HR2.out HB.out)|(with_reducible refine Kd.C_alloc ?_ _)|(with_reducible refine Kd.C_drewN ?_ _)|(with_reducible refine Kd.C_drew ?_)));(case side4=>exact HC2.out);rintro e w101 ⟨rfl,hb⟩;refine ⟨_,rfl,?_⟩;have n0_:=Aside0.mk (Kd.S_below (by (with_reducible repeat (first|apply Kd.S_alloc|apply Kd.S_drewN|apply Kd.S_drew));exact HO_254002.out) hb);have n1_:=Aside0.mk (Kd.S_below (by (with_reducible repeat (first|apply Kd.S_alloc|apply Kd.S_drewN|apply Kd.S_drew));exact HO_263002.out) hb);have n2_:=Aside0.mk (blk_below (g:=gb243) (o:=.cells #[.int .i64 a0_0,.int .i64 a0_1,.slice A0_2 l0_2.length c0_2,.int .i64 a0_3,.int .u32 a0_4] 37 (0,0)) (by (with_reducible repeat (first|refine blk_drewN ?_ _|refine blk_drew ?_|refine blk_alloc ?_ _));exact BK243.out) hb);have n3_:=Aside0.mk (blk_below (g:=gb244) (o:=.cells #[.int .i64 a1_0,.int .i64 a1_1,.slice A1_2 l1_2.length c1_2,.int .i64 a1_3,.int .u32 a1_4] 37 (0,0)) (by (with_reducible repeat (first|refine blk_drewN ?_ _|refine blk_drew ?_|refine blk_alloc ?_ _));exact BK244.out) hb);have n4_:=Aside0.mk (blk_below (g:=gb253) (o:=.cells #[.int .i64 t245,.int .i64 t246,.slice Ao16 t247.length co16,.int .i64 t250,.int .u32 t251] 37 (0,0)) (by (with_reducible repeat (first|refine blk_drewN ?_ _|refine blk_drew ?_|refine blk_alloc ?_ _));exact BK253.out) hb);have n5_:=Aside0.mk (blk_below (g:=gb262) (o:=.cells #[.int .i64 t254,.int .i64 t255,.slice Ao24 t256.length co24,.int .i64 t259,.int .u32 t260] 37 (0,0)) (by (with_reducible repeat (first|refine blk_drewN ?_ _|refine blk_drew ?_|refine blk_alloc ?_ _));exact BK262.out) hb);have n6_:=Aside0.mk (below_step (by repeat (first|(with_reducible first|exact HB.out|apply below_alloc|apply pw_below_drewN|apply below_drew1|refine below_set ?_ GE243.out|refine below_set ?_ GE244.out|refine below_set ?_ GE253.out|refine below_set ?_ GE262.out)|exact HB.out)) hb);clear HO_254002;clear HO_263002;clear BK243;clear BK244;clear BK253;clear BK262;clear HB;have HO_254002:=n0_;have HO_263002:=n1_;have BK243:=n2_;have BK244:=n3_;have BK253:=n4_;have BK262:=n5_;have HB:=n6_;clear n0_ n1_ n2_ n3_ n4_ n5_ n6_;(try clear hb);(try clear hb2);(try clear hk);(try clear hi)))
            go_meet
            case rel=>exact ⟨_,H',⟨by have:=HJ5.out;have:=HJ43.out;first|omega|exact Nat.le_refl _⟩,⟨by (with_reducible repeat (first|apply Kd.S_alloc|apply Kd.S_drewN|apply Kd.S_drew));exact HO_254002.out⟩,⟨by (with_reducible repeat (first|apply Kd.S_alloc|apply Kd.S_drewN|apply Kd.S_drew));exact HO_263002.out⟩,⟨by (with_reducible repeat (first|refine blk_drewN ?_ _|refine blk_drew ?_|refine blk_alloc ?_ _));exact BK243.out⟩,⟨by (with_reducible repeat (first|refine blk_drewN ?_ _|refine blk_drew ?_|refine blk_alloc ?_ _));exact BK244.out⟩,⟨by (with_reducible repeat (first|refine blk_drewN ?_ _|refine blk_drew ?_|refine blk_alloc ?_ _));exact BK253.out⟩,⟨by (with_reducible repeat (first|refine blk_drewN ?_ _|refine blk_drew ?_|refine blk_alloc ?_ _));exact BK262.out⟩,⟨by repeat (first|(with_reducible first|exact HB.out|apply below_alloc|apply pw_below_drewN|apply below_drew1|refine below_set ?_ GE243.out|refine below_set ?_ GE244.out|refine below_set ?_ GE253.out|refine below_set ?_ GE262.out)|exact HB.out)⟩⟩
          ·rw [if_neg c82] at H
           have c82b0 : (t271 == 0) = false:=beq_eq_false_iff_ne.mpr c82
           have c82b1 : (t271 != 0) = true:=bne_iff_ne.mpr c82
           obtain rfl:=Option.some.inj H
           have hnb102:=NB243_244.out
           have hnc102:=NB244_243.out
           have hnb103:=NB243_253.out
           have hnc103:=NB253_243.out
           have hnb104:=NB243_262.out
           have hnc104:=NB262_243.out
           have hcz105_0 : w77.cell? ⟨gb243,0,none⟩ = some (.int .i64 a0_0):=(blk_cell BK243.out 0).trans rfl
           have hcz105_1 : w77.cell? ⟨gb243,1,none⟩ = some (.int .i64 a0_1):=(blk_cell BK243.out 1).trans rfl
           have hcz105_2 : w77.cell? ⟨gb243,2,none⟩ = some (.slice A0_2 l0_2.length c0_2):=(blk_cell BK243.out 2).trans rfl
           have hcz105_3 : w77.cell? ⟨gb243,3,none⟩ = some (.int .i64 a0_3):=(blk_cell BK243.out 3).trans rfl
           have hcz105_4 : w77.cell? ⟨gb243,4,none⟩ = some (.int .u32 a0_4):=(blk_cell BK243.out 4).trans rfl
           have hfz105_0:=blk_frozen BK243.out 0
           have hfz105_1:=blk_frozen BK243.out 1
           have hfz105_2:=blk_frozen BK243.out 2
           have hfz105_3:=blk_frozen BK243.out 3
           have hfz105_4:=blk_frozen BK243.out 4
           go_wp2_with (first|((with_reducible refine gate_callee (f:=18) rfl ?_);refine goesL_ (some 74) rfl rfl Try.func18 (by kernel_rfl) rfl #[.agg #[.int .i64 a0_0,.int .i64 a0_1,.slice A0_2 l0_2.length c0_2,.int .i64 a0_3,.int .u32 a0_4],.slice A2 l2.length c2] rfl (by (try simp only [List.map_toArray,List.map_cons,List.map_nil]);first|done|rfl|(simp only [List.length_drop,List.length_take];rfl)) ?_;(with_reducible refine (machine_Run.calls kj43 a0_0 a0_1 _ _ l0_2 a0_3 a0_4 _ _ l2 t266 t267 t268 _ ?side1 ?side2 ?side3 ?side4 A79.out).mono ?_);(case side1=>repeat (first|exact (Kd.C_below HR0_2.out HB.out)|(with_reducible refine Kd.C_alloc ?_ _)|(with_reducible refine Kd.C_drewN ?_ _)|(with_reducible refine Kd.C_drew ?_)));(case side2=>exact HC0_2.out);(case side3=>repeat (first|exact (Kd.C_below HR2.out HB.out)|(with_reducible refine Kd.C_alloc ?_ _)|(with_reducible refine Kd.C_drewN ?_ _)|(with_reducible refine Kd.C_drew ?_)));(case side4=>exact HC2.out);rintro e w106 ⟨rfl,hb⟩;refine ⟨_,rfl,?_⟩;have n0_:=Aside0.mk (Kd.S_below (by (with_reducible repeat (first|apply Kd.S_alloc|apply Kd.S_drewN|apply Kd.S_drew));exact HO_254002.out) hb);have n1_:=Aside0.mk (Kd.S_below (by (with_reducible repeat (first|apply Kd.S_alloc|apply Kd.S_drewN|apply Kd.S_drew));exact HO_263002.out) hb);have n2_:=Aside0.mk (blk_below (g:=gb243) (o:=.cells #[.int .i64 a0_0,.int .i64 a0_1,.slice A0_2 l0_2.length c0_2,.int .i64 a0_3,.int .u32 a0_4] 37 (0,0)) (by (with_reducible repeat (first|refine blk_drewN ?_ _|refine blk_drew ?_|refine blk_alloc ?_ _));exact BK243.out) hb);have n3_:=Aside0.mk (blk_below (g:=gb244) (o:=.cells #[.int .i64 a1_0,.int .i64 a1_1,.slice A1_2 l1_2.length c1_2,.int .i64 a1_3,.int .u32 a1_4] 37 (0,0)) (by (with_reducible repeat (first|refine blk_drewN ?_ _|refine blk_drew ?_|refine blk_alloc ?_ _));exact BK244.out) hb);have n4_:=Aside0.mk (blk_below (g:=gb253) (o:=.cells #[.int .i64 t245,.int .i64 t246,.slice Ao16 t247.length co16,.int .i64 t250,.int .u32 t251] 37 (0,0)) (by (with_reducible repeat (first|refine blk_drewN ?_ _|refine blk_drew ?_|refine blk_alloc ?_ _));exact BK253.out) hb);have n5_:=Aside0.mk (blk_below (g:=gb262) (o:=.cells #[.int .i64 t254,.int .i64 t255,.slice Ao24 t256.length co24,.int .i64 t259,.int .u32 t260] 37 (0,0)) (by (with_reducible repeat (first|refine blk_drewN ?_ _|refine blk_drew ?_|refine blk_alloc ?_ _));exact BK262.out) hb);have n6_:=Aside0.mk (below_step (by repeat (first|(with_reducible first|exact HB.out|apply below_alloc|apply pw_below_drewN|apply below_drew1|refine below_set ?_ GE243.out|refine below_set ?_ GE244.out|refine below_set ?_ GE253.out|refine below_set ?_ GE262.out)|exact HB.out)) hb);clear HO_254002;clear HO_263002;clear BK243;clear BK244;clear BK253;clear BK262;clear HB;have HO_254002:=n0_;have HO_263002:=n1_;have BK243:=n2_;have BK244:=n3_;have BK253:=n4_;have BK262:=n5_;have HB:=n6_;clear n0_ n1_ n2_ n3_ n4_ n5_ n6_;(try clear hb);(try clear hb2);(try clear hk);(try clear hi);have hnb107:=NB253_244.out;have hnc107:=NB244_253.out;have hnb108:=NB253_262.out;have hnc108:=NB262_253.out;have hcz109_0 : w106.cell? ⟨gb253,0,none⟩ = some (.int .i64 t245):=(blk_cell BK253.out 0).trans rfl;have hcz109_1 : w106.cell? ⟨gb253,1,none⟩ = some (.int .i64 t246):=(blk_cell BK253.out 1).trans rfl;have hcz109_2 : w106.cell? ⟨gb253,2,none⟩ = some (.slice Ao16 t247.length co16):=(blk_cell BK253.out 2).trans rfl;have hcz109_3 : w106.cell? ⟨gb253,3,none⟩ = some (.int .i64 t250):=(blk_cell BK253.out 3).trans rfl;have hcz109_4 : w106.cell? ⟨gb253,4,none⟩ = some (.int .u32 t251):=(blk_cell BK253.out 4).trans rfl;have hfz109_0:=blk_frozen BK253.out 0;have hfz109_1:=blk_frozen BK253.out 1;have hfz109_2:=blk_frozen BK253.out 2;have hfz109_3:=blk_frozen BK253.out 3;have hfz109_4:=blk_frozen BK253.out 4)|((with_reducible refine gate_callee (f:=18) rfl ?_);refine goesL_ (some 81) rfl rfl Try.func18 (by kernel_rfl) rfl #[.agg #[.int .i64 t245,.int .i64 t246,.slice Ao16 t247.length co16,.int .i64 t250,.int .u32 t251],.slice A2 l2.length c2] rfl (by (try simp only [List.map_toArray,List.map_cons,List.map_nil]);first|done|rfl|(simp only [List.length_drop,List.length_take];rfl)) ?_;(with_reducible refine (machine_Run.calls kj43 t245 t246 _ _ t247 t250 t251 _ _ l2 t269 t270 t271 _ ?side1 ?side2 ?side3 ?side4 A80.out).mono ?_);(case side1=>repeat (first|exact (Kd.S_reads' HO_254002.out).2.2|(with_reducible refine Kd.C_alloc ?_ _)|(with_reducible refine Kd.C_drewN ?_ _)|(with_reducible refine Kd.C_drew ?_)));(case side2=>exact (Kd.S_reads' HO_254002.out).2.1);(case side3=>repeat (first|exact (Kd.C_below HR2.out HB.out)|(with_reducible refine Kd.C_alloc ?_ _)|(with_reducible refine Kd.C_drewN ?_ _)|(with_reducible refine Kd.C_drew ?_)));(case side4=>exact HC2.out);rintro e w110 ⟨rfl,hb⟩;refine ⟨_,rfl,?_⟩;have n0_:=Aside0.mk (Kd.S_below (by (with_reducible repeat (first|apply Kd.S_alloc|apply Kd.S_drewN|apply Kd.S_drew));exact HO_254002.out) hb);have n1_:=Aside0.mk (Kd.S_below (by (with_reducible repeat (first|apply Kd.S_alloc|apply Kd.S_drewN|apply Kd.S_drew));exact HO_263002.out) hb);have n2_:=Aside0.mk (blk_below (g:=gb243) (o:=.cells #[.int .i64 a0_0,.int .i64 a0_1,.slice A0_2 l0_2.length c0_2,.int .i64 a0_3,.int .u32 a0_4] 37 (0,0)) (by (with_reducible repeat (first|refine blk_drewN ?_ _|refine blk_drew ?_|refine blk_alloc ?_ _));exact BK243.out) hb);have n3_:=Aside0.mk (blk_below (g:=gb244) (o:=.cells #[.int .i64 a1_0,.int .i64 a1_1,.slice A1_2 l1_2.length c1_2,.int .i64 a1_3,.int .u32 a1_4] 37 (0,0)) (by (with_reducible repeat (first|refine blk_drewN ?_ _|refine blk_drew ?_|refine blk_alloc ?_ _));exact BK244.out) hb);have n4_:=Aside0.mk (blk_below (g:=gb253) (o:=.cells #[.int .i64 t245,.int .i64 t246,.slice Ao16 t247.length co16,.int .i64 t250,.int .u32 t251] 37 (0,0)) (by (with_reducible repeat (first|refine blk_drewN ?_ _|refine blk_drew ?_|refine blk_alloc ?_ _));exact BK253.out) hb);have n5_:=Aside0.mk (blk_below (g:=gb262) (o:=.cells #[.int .i64 t254,.int .i64 t255,.slice Ao24 t256.length co24,.int .i64 t259,.int .u32 t260] 37 (0,0)) (by (with_reducible repeat (first|refine blk_drewN ?_ _|refine blk_drew ?_|refine blk_alloc ?_ _));exact BK262.out) hb);have n6_:=Aside0.mk (below_step (by repeat (first|(with_reducible first|exact HB.out|apply below_alloc|apply pw_below_drewN|apply below_drew1|refine below_set ?_ GE243.out|refine below_set ?_ GE244.out|refine below_set ?_ GE253.out|refine below_set ?_ GE262.out)|exact HB.out)) hb);clear HO_254002;clear HO_263002;clear BK243;clear BK244;clear BK253;clear BK262;clear HB;have HO_254002:=n0_;have HO_263002:=n1_;have BK243:=n2_;have BK244:=n3_;have BK253:=n4_;have BK262:=n5_;have HB:=n6_;clear n0_ n1_ n2_ n3_ n4_ n5_ n6_;(try clear hb);(try clear hb2);(try clear hk);(try clear hi)))
           go_ret
           exact ⟨by first|rfl|(simp [errW_none,errW_some] <;> rfl)|(simp [*,errW_none,errW_some] <;> rfl),by repeat (first|(with_reducible first|exact HB.out|apply below_alloc|apply pw_below_drewN|apply below_drew1|refine below_set ?_ GE243.out|refine below_set ?_ GE244.out|refine below_set ?_ GE253.out|refine below_set ?_ GE262.out)|exact HB.out)⟩
         ·rw [if_neg c81] at H
          have c81b0 : (t268 == 0) = false:=beq_eq_false_iff_ne.mpr c81
          have c81b1 : (t268 != 0) = true:=bne_iff_ne.mpr c81
          (first|rw [c81b0]|(simp only [i64_w,i32_w];rw [c81b0])|skip)
          obtain rfl:=Option.some.inj H
          have hnb111:=NB243_244.out
          have hnc111:=NB244_243.out
          have hnb112:=NB243_253.out
          have hnc112:=NB253_243.out
          have hnb113:=NB243_262.out
          have hnc113:=NB262_243.out
          have hcz114_0 : w77.cell? ⟨gb243,0,none⟩ = some (.int .i64 a0_0):=(blk_cell BK243.out 0).trans rfl
          have hcz114_1 : w77.cell? ⟨gb243,1,none⟩ = some (.int .i64 a0_1):=(blk_cell BK243.out 1).trans rfl
          have hcz114_2 : w77.cell? ⟨gb243,2,none⟩ = some (.slice A0_2 l0_2.length c0_2):=(blk_cell BK243.out 2).trans rfl
          have hcz114_3 : w77.cell? ⟨gb243,3,none⟩ = some (.int .i64 a0_3):=(blk_cell BK243.out 3).trans rfl
          have hcz114_4 : w77.cell? ⟨gb243,4,none⟩ = some (.int .u32 a0_4):=(blk_cell BK243.out 4).trans rfl
          have hfz114_0:=blk_frozen BK243.out 0
          have hfz114_1:=blk_frozen BK243.out 1
          have hfz114_2:=blk_frozen BK243.out 2
          have hfz114_3:=blk_frozen BK243.out 3
          have hfz114_4:=blk_frozen BK243.out 4
          go_wp2_with (first|((with_reducible refine gate_callee (f:=18) rfl ?_);refine goesL_ (some 74) rfl rfl Try.func18 (by kernel_rfl) rfl #[.agg #[.int .i64 a0_0,.int .i64 a0_1,.slice A0_2 l0_2.length c0_2,.int .i64 a0_3,.int .u32 a0_4],.slice A2 l2.length c2] rfl (by (try simp only [List.map_toArray,List.map_cons,List.map_nil]);first|done|rfl|(simp only [List.length_drop,List.length_take];rfl)) ?_;(with_reducible refine (machine_Run.calls kj43 a0_0 a0_1 _ _ l0_2 a0_3 a0_4 _ _ l2 t266 t267 t268 _ ?side1 ?side2 ?side3 ?side4 A79.out).mono ?_);(case side1=>repeat (first|exact (Kd.C_below HR0_2.out HB.out)|(with_reducible refine Kd.C_alloc ?_ _)|(with_reducible refine Kd.C_drewN ?_ _)|(with_reducible refine Kd.C_drew ?_)));(case side2=>exact HC0_2.out);(case side3=>repeat (first|exact (Kd.C_below HR2.out HB.out)|(with_reducible refine Kd.C_alloc ?_ _)|(with_reducible refine Kd.C_drewN ?_ _)|(with_reducible refine Kd.C_drew ?_)));(case side4=>exact HC2.out);rintro e w115 ⟨rfl,hb⟩;refine ⟨_,rfl,?_⟩;have n0_:=Aside0.mk (Kd.S_below (by (with_reducible repeat (first|apply Kd.S_alloc|apply Kd.S_drewN|apply Kd.S_drew));exact HO_254002.out) hb);have n1_:=Aside0.mk (Kd.S_below (by (with_reducible repeat (first|apply Kd.S_alloc|apply Kd.S_drewN|apply Kd.S_drew));exact HO_263002.out) hb);have n2_:=Aside0.mk (blk_below (g:=gb243) (o:=.cells #[.int .i64 a0_0,.int .i64 a0_1,.slice A0_2 l0_2.length c0_2,.int .i64 a0_3,.int .u32 a0_4] 37 (0,0)) (by (with_reducible repeat (first|refine blk_drewN ?_ _|refine blk_drew ?_|refine blk_alloc ?_ _));exact BK243.out) hb);have n3_:=Aside0.mk (blk_below (g:=gb244) (o:=.cells #[.int .i64 a1_0,.int .i64 a1_1,.slice A1_2 l1_2.length c1_2,.int .i64 a1_3,.int .u32 a1_4] 37 (0,0)) (by (with_reducible repeat (first|refine blk_drewN ?_ _|refine blk_drew ?_|refine blk_alloc ?_ _));exact BK244.out) hb);have n4_:=Aside0.mk (blk_below (g:=gb253) (o:=.cells #[.int .i64 t245,.int .i64 t246,.slice Ao16 t247.length co16,.int .i64 t250,.int .u32 t251] 37 (0,0)) (by (with_reducible repeat (first|refine blk_drewN ?_ _|refine blk_drew ?_|refine blk_alloc ?_ _));exact BK253.out) hb);have n5_:=Aside0.mk (blk_below (g:=gb262) (o:=.cells #[.int .i64 t254,.int .i64 t255,.slice Ao24 t256.length co24,.int .i64 t259,.int .u32 t260] 37 (0,0)) (by (with_reducible repeat (first|refine blk_drewN ?_ _|refine blk_drew ?_|refine blk_alloc ?_ _));exact BK262.out) hb);have n6_:=Aside0.mk (below_step (by repeat (first|(with_reducible first|exact HB.out|apply below_alloc|apply pw_below_drewN|apply below_drew1|refine below_set ?_ GE243.out|refine below_set ?_ GE244.out|refine below_set ?_ GE253.out|refine below_set ?_ GE262.out)|exact HB.out)) hb);clear HO_254002;clear HO_263002;clear BK243;clear BK244;clear BK253;clear BK262;clear HB;have HO_254002:=n0_;have HO_263002:=n1_;have BK243:=n2_;have BK244:=n3_;have BK253:=n4_;have BK262:=n5_;have HB:=n6_;clear n0_ n1_ n2_ n3_ n4_ n5_ n6_;(try clear hb);(try clear hb2);(try clear hk);(try clear hi);have hnb116:=NB253_244.out;have hnc116:=NB244_253.out;have hnb117:=NB253_262.out;have hnc117:=NB262_253.out;have hcz118_0 : w115.cell? ⟨gb253,0,none⟩ = some (.int .i64 t245):=(blk_cell BK253.out 0).trans rfl;have hcz118_1 : w115.cell? ⟨gb253,1,none⟩ = some (.int .i64 t246):=(blk_cell BK253.out 1).trans rfl;have hcz118_2 : w115.cell? ⟨gb253,2,none⟩ = some (.slice Ao16 t247.length co16):=(blk_cell BK253.out 2).trans rfl;have hcz118_3 : w115.cell? ⟨gb253,3,none⟩ = some (.int .i64 t250):=(blk_cell BK253.out 3).trans rfl;have hcz118_4 : w115.cell? ⟨gb253,4,none⟩ = some (.int .u32 t251):=(blk_cell BK253.out 4).trans rfl;have hfz118_0:=blk_frozen BK253.out 0;have hfz118_1:=blk_frozen BK253.out 1;have hfz118_2:=blk_frozen BK253.out 2;have hfz118_3:=blk_frozen BK253.out 3;have hfz118_4:=blk_frozen BK253.out 4)|((with_reducible refine gate_callee (f:=18) rfl ?_);refine goesL_ (some 81) rfl rfl Try.func18 (by kernel_rfl) rfl #[.agg #[.int .i64 t245,.int .i64 t246,.slice Ao16 t247.length co16,.int .i64 t250,.int .u32 t251],.slice A2 l2.length c2] rfl (by (try simp only [List.map_toArray,List.map_cons,List.map_nil]);first|done|rfl|(simp only [List.length_drop,List.length_take];rfl)) ?_;(with_reducible refine (machine_Run.calls kj43 t245 t246 _ _ t247 t250 t251 _ _ l2 t269 t270 t271 _ ?side1 ?side2 ?side3 ?side4 A80.out).mono ?_);(case side1=>repeat (first|exact (Kd.S_reads' HO_254002.out).2.2|(with_reducible refine Kd.C_alloc ?_ _)|(with_reducible refine Kd.C_drewN ?_ _)|(with_reducible refine Kd.C_drew ?_)));(case side2=>exact (Kd.S_reads' HO_254002.out).2.1);(case side3=>repeat (first|exact (Kd.C_below HR2.out HB.out)|(with_reducible refine Kd.C_alloc ?_ _)|(with_reducible refine Kd.C_drewN ?_ _)|(with_reducible refine Kd.C_drew ?_)));(case side4=>exact HC2.out);rintro e w119 ⟨rfl,hb⟩;refine ⟨_,rfl,?_⟩;have n0_:=Aside0.mk (Kd.S_below (by (with_reducible repeat (first|apply Kd.S_alloc|apply Kd.S_drewN|apply Kd.S_drew));exact HO_254002.out) hb);have n1_:=Aside0.mk (Kd.S_below (by (with_reducible repeat (first|apply Kd.S_alloc|apply Kd.S_drewN|apply Kd.S_drew));exact HO_263002.out) hb);have n2_:=Aside0.mk (blk_below (g:=gb243) (o:=.cells #[.int .i64 a0_0,.int .i64 a0_1,.slice A0_2 l0_2.length c0_2,.int .i64 a0_3,.int .u32 a0_4] 37 (0,0)) (by (with_reducible repeat (first|refine blk_drewN ?_ _|refine blk_drew ?_|refine blk_alloc ?_ _));exact BK243.out) hb);have n3_:=Aside0.mk (blk_below (g:=gb244) (o:=.cells #[.int .i64 a1_0,.int .i64 a1_1,.slice A1_2 l1_2.length c1_2,.int .i64 a1_3,.int .u32 a1_4] 37 (0,0)) (by (with_reducible repeat (first|refine blk_drewN ?_ _|refine blk_drew ?_|refine blk_alloc ?_ _));exact BK244.out) hb);have n4_:=Aside0.mk (blk_below (g:=gb253) (o:=.cells #[.int .i64 t245,.int .i64 t246,.slice Ao16 t247.length co16,.int .i64 t250,.int .u32 t251] 37 (0,0)) (by (with_reducible repeat (first|refine blk_drewN ?_ _|refine blk_drew ?_|refine blk_alloc ?_ _));exact BK253.out) hb);have n5_:=Aside0.mk (blk_below (g:=gb262) (o:=.cells #[.int .i64 t254,.int .i64 t255,.slice Ao24 t256.length co24,.int .i64 t259,.int .u32 t260] 37 (0,0)) (by (with_reducible repeat (first|refine blk_drewN ?_ _|refine blk_drew ?_|refine blk_alloc ?_ _));exact BK262.out) hb);have n6_:=Aside0.mk (below_step (by repeat (first|(with_reducible first|exact HB.out|apply below_alloc|apply pw_below_drewN|apply below_drew1|refine below_set ?_ GE243.out|refine below_set ?_ GE244.out|refine below_set ?_ GE253.out|refine below_set ?_ GE262.out)|exact HB.out)) hb);clear HO_254002;clear HO_263002;clear BK243;clear BK244;clear BK253;clear BK262;clear HB;have HO_254002:=n0_;have HO_263002:=n1_;have BK243:=n2_;have BK244:=n3_;have BK253:=n4_;have BK262:=n5_;have HB:=n6_;clear n0_ n1_ n2_ n3_ n4_ n5_ n6_;(try clear hb);(try clear hb2);(try clear hk);(try clear hi)))
          go_ret
          exact ⟨by first|rfl|(simp [errW_none,errW_some] <;> rfl)|(simp [*,errW_none,errW_some] <;> rfl),by repeat (first|(with_reducible first|exact HB.out|apply below_alloc|apply pw_below_drewN|apply below_drew1|refine below_set ?_ GE243.out|refine below_set ?_ GE244.out|refine below_set ?_ GE253.out|refine below_set ?_ GE262.out)|exact HB.out)⟩
        ·replace c78:=Bool.eq_false_iff.mpr c78
         subst c78
         have H1 : (coppicerkeep_LeastFew.j2 kj43 a0_0 a0_1 l0_2 a0_3 a0_4 a1_0 a1_1 l1_2 a1_3 a1_4 t245 t246 t247 t250 t251 t254 t255 t256 t259 t260) = some r:=by rw [if_neg (show ¬ (false = true) by decide)] at H;exact H
         clear H
         have H:=H1
         clear H1
         have H':=Aside0.mk H
         clear H
         go_wp2
         go_meet
         case rel=>exact ⟨_,H',⟨by have:=HJ5.out;have:=HJ43.out;first|omega|exact Nat.le_refl _⟩,⟨by (with_reducible repeat (first|apply Kd.S_alloc|apply Kd.S_drewN|apply Kd.S_drew));exact HO_254002.out⟩,⟨by (with_reducible repeat (first|apply Kd.S_alloc|apply Kd.S_drewN|apply Kd.S_drew));exact HO_263002.out⟩,⟨by (with_reducible repeat (first|refine blk_drewN ?_ _|refine blk_drew ?_|refine blk_alloc ?_ _));exact BK243.out⟩,⟨by (with_reducible repeat (first|refine blk_drewN ?_ _|refine blk_drew ?_|refine blk_alloc ?_ _));exact BK244.out⟩,⟨by (with_reducible repeat (first|refine blk_drewN ?_ _|refine blk_drew ?_|refine blk_alloc ?_ _));exact BK253.out⟩,⟨by (with_reducible repeat (first|refine blk_drewN ?_ _|refine blk_drew ?_|refine blk_alloc ?_ _));exact BK262.out⟩,⟨by repeat (first|(with_reducible first|exact HB.out|apply below_alloc|apply pw_below_drewN|apply below_drew1|refine below_set ?_ GE243.out|refine below_set ?_ GE244.out|refine below_set ?_ GE253.out|refine below_set ?_ GE262.out)|exact HB.out)⟩⟩
       case rest =>
        clear HC72
        try clear c1
        try clear c2
        try clear p2
        try clear c3
        try clear c4
        try clear c5
        try clear c6
        try clear c7
        try clear c8
        try clear c9
        try clear c10
        try clear c11
        try clear c13
        try clear c14
        try clear c18
        try clear c19
        try clear c20
        try clear c21
        try clear c22
        try clear c26
        try clear c26b0
        try clear c26b1
        try clear c28
        try clear c29
        try clear c30
        try clear c31
        try clear c33
        try clear c34
        try clear c36
        try clear c37
        try clear c38
        try clear c39
        try clear c42
        try clear c43
        try clear c43b0
        try clear c43b1
        try clear c45
        try clear c45b0
        try clear c45b1
        try clear c46
        try clear c46b0
        try clear c46b1
        try clear c47
        try clear c47b0
        try clear c48
        try clear c49
        try clear c50
        try clear c52
        try clear c52b0
        try clear c53
        try clear c54
        try clear c55
        try clear c57
        try clear c58
        try clear c60
        try clear c61
        try clear c62
        try clear c64
        try clear c65
        try clear c67
        try clear c70
        try clear c73
        try clear c74
        try clear c75
        try clear c78
        try clear c81
        try clear c81b0
        try clear c81b1
        try clear c82
        try clear c82b0
        try clear c82b1
        try clear c83
        try clear c83b0
        try clear c83b1
        try clear c83b2
        try clear c84
        try clear c85
        try clear c86
        try clear c89
        try clear c90
        try clear c93
        try clear c94
        try clear c95
        try clear c98
        try clear c99
        try clear c102
        try clear c103
        try clear c104
        try clear c107
        try clear c108
        try clear c111
        try clear c112
        try clear c113
        try clear c116
        try clear c117
        try clear hcz100_0
        try clear hcz100_1
        try clear hcz100_2
        try clear hcz100_3
        try clear hcz100_4
        try clear hcz105_0
        try clear hcz105_1
        try clear hcz105_2
        try clear hcz105_3
        try clear hcz105_4
        try clear hcz109_0
        try clear hcz109_1
        try clear hcz109_2
        try clear hcz109_3
        try clear hcz109_4
        try clear hcz10_0
        try clear hcz10_1
        try clear hcz10_2
        try clear hcz10_3
        try clear hcz10_4
        try clear hcz114_0
        try clear hcz114_1
        try clear hcz114_2
        try clear hcz114_3
        try clear hcz114_4
        try clear hcz118_0
        try clear hcz118_1
        try clear hcz118_2
        try clear hcz118_3
        try clear hcz118_4
        try clear hcz15_0
        try clear hcz15_1
        try clear hcz15_2
        try clear hcz15_3
        try clear hcz15_4
        try clear hcz17_0
        try clear hcz17_1
        try clear hcz17_2
        try clear hcz17_3
        try clear hcz17_4
        try clear hcz23_0
        try clear hcz23_1
        try clear hcz23_2
        try clear hcz23_3
        try clear hcz23_4
        try clear hcz31_0
        try clear hcz31_1
        try clear hcz31_2
        try clear hcz31_3
        try clear hcz31_4
        try clear hcz35_0
        try clear hcz35_1
        try clear hcz35_2
        try clear hcz35_3
        try clear hcz35_4
        try clear hcz40_0
        try clear hcz40_1
        try clear hcz40_2
        try clear hcz40_3
        try clear hcz40_4
        try clear hcz51_0
        try clear hcz51_1
        try clear hcz51_2
        try clear hcz51_3
        try clear hcz51_4
        try clear hcz56_0
        try clear hcz56_1
        try clear hcz56_2
        try clear hcz56_3
        try clear hcz56_4
        try clear hcz59_0
        try clear hcz59_1
        try clear hcz59_2
        try clear hcz59_3
        try clear hcz59_4
        try clear hcz63_0
        try clear hcz63_1
        try clear hcz63_2
        try clear hcz63_3
        try clear hcz63_4
        try clear hcz66_0
        try clear hcz66_1
        try clear hcz66_2
        try clear hcz66_3
        try clear hcz66_4
        try clear hcz68_0
        try clear hcz68_1
        try clear hcz68_2
        try clear hcz68_3
        try clear hcz68_4
        try clear hcz69_0
        try clear hcz69_1
        try clear hcz69_2
        try clear hcz69_3
        try clear hcz69_4
        try clear hcz76_0
        try clear hcz76_1
        try clear hcz76_2
        try clear hcz76_3
        try clear hcz76_4
        try clear hcz87_0
        try clear hcz87_1
        try clear hcz87_2
        try clear hcz87_3
        try clear hcz87_4
        try clear hcz91_0
        try clear hcz91_1
        try clear hcz91_2
        try clear hcz91_3
        try clear hcz91_4
        try clear hcz96_0
        try clear hcz96_1
        try clear hcz96_2
        try clear hcz96_3
        try clear hcz96_4
        try clear hfz100_0
        try clear hfz100_1
        try clear hfz100_2
        try clear hfz100_3
        try clear hfz100_4
        try clear hfz105_0
        try clear hfz105_1
        try clear hfz105_2
        try clear hfz105_3
        try clear hfz105_4
        try clear hfz109_0
        try clear hfz109_1
        try clear hfz109_2
        try clear hfz109_3
        try clear hfz109_4
        try clear hfz10_0
        try clear hfz10_1
        try clear hfz10_2
        try clear hfz10_3
        try clear hfz10_4
        try clear hfz114_0
        try clear hfz114_1
        try clear hfz114_2
        try clear hfz114_3
        try clear hfz114_4
        try clear hfz118_0
        try clear hfz118_1
        try clear hfz118_2
        try clear hfz118_3
        try clear hfz118_4
        try clear hfz15_0
        try clear hfz15_1
        try clear hfz15_2
        try clear hfz15_3
        try clear hfz15_4
        try clear hfz17_0
        try clear hfz17_1
        try clear hfz17_2
        try clear hfz17_3
        try clear hfz17_4
        try clear hfz23_0
        try clear hfz23_1
        try clear hfz23_2
        try clear hfz23_3
        try clear hfz23_4
        try clear hfz31_0
        try clear hfz31_1
        try clear hfz31_2
        try clear hfz31_3
        try clear hfz31_4
        try clear hfz35_0
        try clear hfz35_1
        try clear hfz35_2
        try clear hfz35_3
        try clear hfz35_4
        try clear hfz40_0
        try clear hfz40_1
        try clear hfz40_2
        try clear hfz40_3
        try clear hfz40_4
        try clear hfz51_0
        try clear hfz51_1
        try clear hfz51_2
        try clear hfz51_3
        try clear hfz51_4
        try clear hfz56_0
        try clear hfz56_1
        try clear hfz56_2
        try clear hfz56_3
        try clear hfz56_4
        try clear hfz59_0
        try clear hfz59_1
        try clear hfz59_2
        try clear hfz59_3
        try clear hfz59_4
        try clear hfz63_0
        try clear hfz63_1
        try clear hfz63_2
        try clear hfz63_3
        try clear hfz63_4
        try clear hfz66_0
        try clear hfz66_1
        try clear hfz66_2
        try clear hfz66_3
        try clear hfz66_4
        try clear hfz68_0
        try clear hfz68_1
        try clear hfz68_2
        try clear hfz68_3
        try clear hfz68_4
        try clear hfz69_0
        try clear hfz69_1
        try clear hfz69_2
        try clear hfz69_3
        try clear hfz69_4
        try clear hfz76_0
        try clear hfz76_1
        try clear hfz76_2
        try clear hfz76_3
        try clear hfz76_4
        try clear hfz87_0
        try clear hfz87_1
        try clear hfz87_2
        try clear hfz87_3
        try clear hfz87_4
        try clear hfz91_0
        try clear hfz91_1
        try clear hfz91_2
        try clear hfz91_3
        try clear hfz91_4
        try clear hfz96_0
        try clear hfz96_1
        try clear hfz96_2
        try clear hfz96_3
        try clear hfz96_4
        try clear p2
        obtain ⟨kq,HA,HJ71,HO_254002,HO_263002,BK243,BK244,BK253,BK262,HB⟩:=hcut
        cases kq with
        | zero=>exact absurd HA.out (by simp [coppicerkeep_LeastFew.j2])
        | succ kj71 =>
         have H:=HA.out
         clear HA
         simp only [coppicerkeep_LeastFew.j2] at H
         replace H:=Option.bind_eq_some_iff.mp H
         obtain ⟨⟨t272,t273⟩,A1200,H⟩:=H
         replace H : (if a0_1 = a1_1 then (if t273 = 0 then ((coppicerref_MachineSame.f kj71 t245 t246 t247 t250 t251 t254 t255 t256 t259 t260).bind fun t274=>(some (t272 == t274))) else (some false)) else (some (t273 != 0))) = some r:=H
         have A120:=Aside0.mk A1200
         clear A1200
         by_cases c121 : a0_1 = a1_1
         ·rw [if_pos c121] at H
          have c121b0 : (a0_1 == a1_1) = true:=beq_iff_eq.mpr c121
          have c121b1 : (a0_1 != a1_1) = false:=bne_eq_false_iff_eq.mpr c121
          clear c121
          by_cases c122 : t273 = 0
          ·rw [if_pos c122] at H
           have c122b0 : (t273 == 0) = true:=beq_iff_eq.mpr c122
           have c122b1 : (t273 != 0) = false:=bne_eq_false_iff_eq.mpr c122
           clear c122
           replace H:=Option.bind_eq_some_iff.mp H
           obtain ⟨t274,A1230,H⟩:=H
           replace H : (some (t272 == t274)) = some r:=H
           have A123:=Aside0.mk A1230
           clear A1230
           obtain rfl:=Option.some.inj H
           have hnb124:=NB243_244.out
           have hnc124:=NB244_243.out
           have hnb125:=NB243_253.out
           have hnc125:=NB253_243.out
           have hnb126:=NB243_262.out
           have hnc126:=NB262_243.out
           have hcz127_0 : wc.cell? ⟨gb243,0,none⟩ = some (.int .i64 a0_0):=(blk_cell BK243.out 0).trans rfl
           have hcz127_1 : wc.cell? ⟨gb243,1,none⟩ = some (.int .i64 a0_1):=(blk_cell BK243.out 1).trans rfl
           have hcz127_2 : wc.cell? ⟨gb243,2,none⟩ = some (.slice A0_2 l0_2.length c0_2):=(blk_cell BK243.out 2).trans rfl
           have hcz127_3 : wc.cell? ⟨gb243,3,none⟩ = some (.int .i64 a0_3):=(blk_cell BK243.out 3).trans rfl
           have hcz127_4 : wc.cell? ⟨gb243,4,none⟩ = some (.int .u32 a0_4):=(blk_cell BK243.out 4).trans rfl
           have hfz127_0:=blk_frozen BK243.out 0
           have hfz127_1:=blk_frozen BK243.out 1
           have hfz127_2:=blk_frozen BK243.out 2
           have hfz127_3:=blk_frozen BK243.out 3
           have hfz127_4:=blk_frozen BK243.out 4
           have hnb128:=NB244_253.out
           have hnc128:=NB253_244.out
           have hnb129:=NB244_262.out
           have hnc129:=NB262_244.out
           have hcz130_0 : wc.cell? ⟨gb244,0,none⟩ = some (.int .i64 a1_0):=(blk_cell BK244.out 0).trans rfl
           have hcz130_1 : wc.cell? ⟨gb244,1,none⟩ = some (.int .i64 a1_1):=(blk_cell BK244.out 1).trans rfl
           have hcz130_2 : wc.cell? ⟨gb244,2,none⟩ = some (.slice A1_2 l1_2.length c1_2):=(blk_cell BK244.out 2).trans rfl
           have hcz130_3 : wc.cell? ⟨gb244,3,none⟩ = some (.int .i64 a1_3):=(blk_cell BK244.out 3).trans rfl
           have hcz130_4 : wc.cell? ⟨gb244,4,none⟩ = some (.int .u32 a1_4):=(blk_cell BK244.out 4).trans rfl
           have hfz130_0:=blk_frozen BK244.out 0
           have hfz130_1:=blk_frozen BK244.out 1
           have hfz130_2:=blk_frozen BK244.out 2
           have hfz130_3:=blk_frozen BK244.out 3
           have hfz130_4:=blk_frozen BK244.out 4
           go_wp2_with (first|((with_reducible refine gate_callee (f:=37) rfl ?_);refine goesL_ (some 99) rfl rfl Try.func37 (by kernel_rfl) rfl #[.agg #[.int .i64 a0_0,.int .i64 a0_1,.slice A0_2 l0_2.length c0_2,.int .i64 a0_3,.int .u32 a0_4],.agg #[.int .i64 a1_0,.int .i64 a1_1,.slice A1_2 l1_2.length c1_2,.int .i64 a1_3,.int .u32 a1_4]] rfl (by (try simp only [List.map_toArray,List.map_cons,List.map_nil]);first|done|rfl|(simp only [List.length_drop,List.length_take];rfl)) ?_;(with_reducible refine (least_Same.calls kj71 a0_0 a0_1 _ _ l0_2 a0_3 a0_4 a1_0 a1_1 _ _ l1_2 a1_3 a1_4 t272 t273 _ ?side1 ?side2 ?side3 ?side4 A120.out).mono ?_);(case side1=>repeat (first|exact (Kd.C_below HR0_2.out HB.out)|(with_reducible refine Kd.C_alloc ?_ _)|(with_reducible refine Kd.C_drewN ?_ _)|(with_reducible refine Kd.C_drew ?_)));(case side2=>exact HC0_2.out);(case side3=>repeat (first|exact (Kd.C_below HR1_2.out HB.out)|(with_reducible refine Kd.C_alloc ?_ _)|(with_reducible refine Kd.C_drewN ?_ _)|(with_reducible refine Kd.C_drew ?_)));(case side4=>exact HC1_2.out);rintro e w131 ⟨rfl,hb⟩;refine ⟨_,rfl,?_⟩;have n0_:=Aside0.mk (Kd.S_below (by (with_reducible repeat (first|apply Kd.S_alloc|apply Kd.S_drewN|apply Kd.S_drew));exact HO_254002.out) hb);have n1_:=Aside0.mk (Kd.S_below (by (with_reducible repeat (first|apply Kd.S_alloc|apply Kd.S_drewN|apply Kd.S_drew));exact HO_263002.out) hb);have n2_:=Aside0.mk (blk_below (g:=gb243) (o:=.cells #[.int .i64 a0_0,.int .i64 a0_1,.slice A0_2 l0_2.length c0_2,.int .i64 a0_3,.int .u32 a0_4] 37 (0,0)) (by (with_reducible repeat (first|refine blk_drewN ?_ _|refine blk_drew ?_|refine blk_alloc ?_ _));exact BK243.out) hb);have n3_:=Aside0.mk (blk_below (g:=gb244) (o:=.cells #[.int .i64 a1_0,.int .i64 a1_1,.slice A1_2 l1_2.length c1_2,.int .i64 a1_3,.int .u32 a1_4] 37 (0,0)) (by (with_reducible repeat (first|refine blk_drewN ?_ _|refine blk_drew ?_|refine blk_alloc ?_ _));exact BK244.out) hb);have n4_:=Aside0.mk (blk_below (g:=gb253) (o:=.cells #[.int .i64 t245,.int .i64 t246,.slice Ao16 t247.length co16,.int .i64 t250,.int .u32 t251] 37 (0,0)) (by (with_reducible repeat (first|refine blk_drewN ?_ _|refine blk_drew ?_|refine blk_alloc ?_ _));exact BK253.out) hb);have n5_:=Aside0.mk (blk_below (g:=gb262) (o:=.cells #[.int .i64 t254,.int .i64 t255,.slice Ao24 t256.length co24,.int .i64 t259,.int .u32 t260] 37 (0,0)) (by (with_reducible repeat (first|refine blk_drewN ?_ _|refine blk_drew ?_|refine blk_alloc ?_ _));exact BK262.out) hb);have n6_:=Aside0.mk (below_step (by repeat (first|(with_reducible first|exact HB.out|apply below_alloc|apply pw_below_drewN|apply below_drew1|refine below_set ?_ GE243.out|refine below_set ?_ GE244.out|refine below_set ?_ GE253.out|refine below_set ?_ GE262.out)|exact HB.out)) hb);clear HO_254002;clear HO_263002;clear BK243;clear BK244;clear BK253;clear BK262;clear HB;have HO_254002:=n0_;have HO_263002:=n1_;have BK243:=n2_;have BK244:=n3_;have BK253:=n4_;have BK262:=n5_;have HB:=n6_;clear n0_ n1_ n2_ n3_ n4_ n5_ n6_;(try clear hb);(try clear hb2);(try clear hk);(try clear hi);have hcz132_0 : w131.cell? ⟨gb243,0,none⟩ = some (.int .i64 a0_0):=(blk_cell BK243.out 0).trans rfl;have hcz132_1 : w131.cell? ⟨gb243,1,none⟩ = some (.int .i64 a0_1):=(blk_cell BK243.out 1).trans rfl;have hcz132_2 : w131.cell? ⟨gb243,2,none⟩ = some (.slice A0_2 l0_2.length c0_2):=(blk_cell BK243.out 2).trans rfl;have hcz132_3 : w131.cell? ⟨gb243,3,none⟩ = some (.int .i64 a0_3):=(blk_cell BK243.out 3).trans rfl;have hcz132_4 : w131.cell? ⟨gb243,4,none⟩ = some (.int .u32 a0_4):=(blk_cell BK243.out 4).trans rfl;have hfz132_0:=blk_frozen BK243.out 0;have hfz132_1:=blk_frozen BK243.out 1;have hfz132_2:=blk_frozen BK243.out 2;have hfz132_3:=blk_frozen BK243.out 3;have hfz132_4:=blk_frozen BK243.out 4;have hcz133_0 : w131.cell? ⟨gb244,0,none⟩ = some (.int .i64 a1_0):=(blk_cell BK244.out 0).trans rfl;have hcz133_1 : w131.cell? ⟨gb244,1,none⟩ = some (.int .i64 a1_1):=(blk_cell BK244.out 1).trans rfl;have hcz133_2 : w131.cell? ⟨gb244,2,none⟩ = some (.slice A1_2 l1_2.length c1_2):=(blk_cell BK244.out 2).trans rfl;have hcz133_3 : w131.cell? ⟨gb244,3,none⟩ = some (.int .i64 a1_3):=(blk_cell BK244.out 3).trans rfl;have hcz133_4 : w131.cell? ⟨gb244,4,none⟩ = some (.int .u32 a1_4):=(blk_cell BK244.out 4).trans rfl;have hfz133_0:=blk_frozen BK244.out 0;have hfz133_1:=blk_frozen BK244.out 1;have hfz133_2:=blk_frozen BK244.out 2;have hfz133_3:=blk_frozen BK244.out 3;have hfz133_4:=blk_frozen BK244.out 4;have hnb134:=NB253_262.out;have hnc134:=NB262_253.out;have hcz135_0 : w131.cell? ⟨gb253,0,none⟩ = some (.int .i64 t245):=(blk_cell BK253.out 0).trans rfl;have hcz135_1 : w131.cell? ⟨gb253,1,none⟩ = some (.int .i64 t246):=(blk_cell BK253.out 1).trans rfl;have hcz135_2 : w131.cell? ⟨gb253,2,none⟩ = some (.slice Ao16 t247.length co16):=(blk_cell BK253.out 2).trans rfl;have hcz135_3 : w131.cell? ⟨gb253,3,none⟩ = some (.int .i64 t250):=(blk_cell BK253.out 3).trans rfl;have hcz135_4 : w131.cell? ⟨gb253,4,none⟩ = some (.int .u32 t251):=(blk_cell BK253.out 4).trans rfl;have hfz135_0:=blk_frozen BK253.out 0;have hfz135_1:=blk_frozen BK253.out 1;have hfz135_2:=blk_frozen BK253.out 2;have hfz135_3:=blk_frozen BK253.out 3;have hfz135_4:=blk_frozen BK253.out 4;have hcz136_0 : w131.cell? ⟨gb262,0,none⟩ = some (.int .i64 t254):=(blk_cell BK262.out 0).trans rfl;have hcz136_1 : w131.cell? ⟨gb262,1,none⟩ = some (.int .i64 t255):=(blk_cell BK262.out 1).trans rfl;have hcz136_2 : w131.cell? ⟨gb262,2,none⟩ = some (.slice Ao24 t256.length co24):=(blk_cell BK262.out 2).trans rfl;have hcz136_3 : w131.cell? ⟨gb262,3,none⟩ = some (.int .i64 t259):=(blk_cell BK262.out 3).trans rfl;have hcz136_4 : w131.cell? ⟨gb262,4,none⟩ = some (.int .u32 t260):=(blk_cell BK262.out 4).trans rfl;have hfz136_0:=blk_frozen BK262.out 0;have hfz136_1:=blk_frozen BK262.out 1;have hfz136_2:=blk_frozen BK262.out 2;have hfz136_3:=blk_frozen BK262.out 3;have hfz136_4:=blk_frozen BK262.out 4)|(go_at_call 38;(with_reducible refine (coppicerref_MachineSame.calls kj71 t245 t246 _ _ t247 t250 t251 t254 t255 _ _ t256 t259 t260 t274 _ ?side1 ?side2 ?side3 ?side4 A123.out).mono ?_);(case side1=>repeat (first|exact (Kd.S_reads' HO_254002.out).2.2|(with_reducible refine Kd.C_alloc ?_ _)|(with_reducible refine Kd.C_drewN ?_ _)|(with_reducible refine Kd.C_drew ?_)));(case side2=>exact (Kd.S_reads' HO_254002.out).2.1);(case side3=>repeat (first|exact (Kd.S_reads' HO_263002.out).2.2|(with_reducible refine Kd.C_alloc ?_ _)|(with_reducible refine Kd.C_drewN ?_ _)|(with_reducible refine Kd.C_drew ?_)));(case side4=>exact (Kd.S_reads' HO_263002.out).2.1);rintro e w137 ⟨rfl,hb⟩;have n0_:=Aside0.mk (Kd.S_below (by (with_reducible repeat (first|apply Kd.S_alloc|apply Kd.S_drewN|apply Kd.S_drew));exact HO_254002.out) hb);have n1_:=Aside0.mk (Kd.S_below (by (with_reducible repeat (first|apply Kd.S_alloc|apply Kd.S_drewN|apply Kd.S_drew));exact HO_263002.out) hb);have n2_:=Aside0.mk (blk_below (g:=gb243) (o:=.cells #[.int .i64 a0_0,.int .i64 a0_1,.slice A0_2 l0_2.length c0_2,.int .i64 a0_3,.int .u32 a0_4] 37 (0,0)) (by (with_reducible repeat (first|refine blk_drewN ?_ _|refine blk_drew ?_|refine blk_alloc ?_ _));exact BK243.out) hb);have n3_:=Aside0.mk (blk_below (g:=gb244) (o:=.cells #[.int .i64 a1_0,.int .i64 a1_1,.slice A1_2 l1_2.length c1_2,.int .i64 a1_3,.int .u32 a1_4] 37 (0,0)) (by (with_reducible repeat (first|refine blk_drewN ?_ _|refine blk_drew ?_|refine blk_alloc ?_ _));exact BK244.out) hb);have n4_:=Aside0.mk (blk_below (g:=gb253) (o:=.cells #[.int .i64 t245,.int .i64 t246,.slice Ao16 t247.length co16,.int .i64 t250,.int .u32 t251] 37 (0,0)) (by (with_reducible repeat (first|refine blk_drewN ?_ _|refine blk_drew ?_|refine blk_alloc ?_ _));exact BK253.out) hb);have n5_:=Aside0.mk (blk_below (g:=gb262) (o:=.cells #[.int .i64 t254,.int .i64 t255,.slice Ao24 t256.length co24,.int .i64 t259,.int .u32 t260] 37 (0,0)) (by (with_reducible repeat (first|refine blk_drewN ?_ _|refine blk_drew ?_|refine blk_alloc ?_ _));exact BK262.out) hb);have n6_:=Aside0.mk (below_step (by repeat (first|(with_reducible first|exact HB.out|apply below_alloc|apply pw_below_drewN|apply below_drew1|refine below_set ?_ GE243.out|refine below_set ?_ GE244.out|refine below_set ?_ GE253.out|refine below_set ?_ GE262.out)|exact HB.out)) hb);clear HO_254002;clear HO_263002;clear BK243;clear BK244;clear BK253;clear BK262;clear HB;have HO_254002:=n0_;have HO_263002:=n1_;have BK243:=n2_;have BK244:=n3_;have BK253:=n4_;have BK262:=n5_;have HB:=n6_;clear n0_ n1_ n2_ n3_ n4_ n5_ n6_;(try clear hb);(try clear hb2);(try clear hk);(try clear hi)))
           go_ret
           exact ⟨by first|rfl|(simp [errW_none,errW_some] <;> rfl)|(simp [*,errW_none,errW_some] <;> rfl),by repeat (first|(with_reducible first|exact HB.out|apply below_alloc|apply pw_below_drewN|apply below_drew1|refine below_set ?_ GE243.out|refine below_set ?_ GE244.out|refine below_set ?_ GE253.out|refine below_set ?_ GE262.out)|exact HB.out)⟩
          ·rw [if_neg c122] at H
           have c122b0 : (t273 == 0) = false:=beq_eq_false_iff_ne.mpr c122
           have c122b1 : (t273 != 0) = true:=bne_iff_ne.mpr c122
           obtain rfl:=Option.some.inj H
           have hnb138:=NB243_244.out
           have hnc138:=NB244_243.out
           have hnb139:=NB243_253.out
           have hnc139:=NB253_243.out
           have hnb140:=NB243_262.out
           have hnc140:=NB262_243.out
           have hcz141_0 : wc.cell? ⟨gb243,0,none⟩ = some (.int .i64 a0_0):=(blk_cell BK243.out 0).trans rfl
           have hcz141_1 : wc.cell? ⟨gb243,1,none⟩ = some (.int .i64 a0_1):=(blk_cell BK243.out 1).trans rfl
           have hcz141_2 : wc.cell? ⟨gb243,2,none⟩ = some (.slice A0_2 l0_2.length c0_2):=(blk_cell BK243.out 2).trans rfl
           have hcz141_3 : wc.cell? ⟨gb243,3,none⟩ = some (.int .i64 a0_3):=(blk_cell BK243.out 3).trans rfl
           have hcz141_4 : wc.cell? ⟨gb243,4,none⟩ = some (.int .u32 a0_4):=(blk_cell BK243.out 4).trans rfl
           have hfz141_0:=blk_frozen BK243.out 0
           have hfz141_1:=blk_frozen BK243.out 1
           have hfz141_2:=blk_frozen BK243.out 2
           have hfz141_3:=blk_frozen BK243.out 3
           have hfz141_4:=blk_frozen BK243.out 4
           have hnb142:=NB244_253.out
           have hnc142:=NB253_244.out
           have hnb143:=NB244_262.out
           have hnc143:=NB262_244.out
           have hcz144_0 : wc.cell? ⟨gb244,0,none⟩ = some (.int .i64 a1_0):=(blk_cell BK244.out 0).trans rfl
           have hcz144_1 : wc.cell? ⟨gb244,1,none⟩ = some (.int .i64 a1_1):=(blk_cell BK244.out 1).trans rfl
           have hcz144_2 : wc.cell? ⟨gb244,2,none⟩ = some (.slice A1_2 l1_2.length c1_2):=(blk_cell BK244.out 2).trans rfl
           have hcz144_3 : wc.cell? ⟨gb244,3,none⟩ = some (.int .i64 a1_3):=(blk_cell BK244.out 3).trans rfl
           have hcz144_4 : wc.cell? ⟨gb244,4,none⟩ = some (.int .u32 a1_4):=(blk_cell BK244.out 4).trans rfl
           have hfz144_0:=blk_frozen BK244.out 0
           have hfz144_1:=blk_frozen BK244.out 1
           have hfz144_2:=blk_frozen BK244.out 2
           have hfz144_3:=blk_frozen BK244.out 3
           have hfz144_4:=blk_frozen BK244.out 4
           go_wp2_with (first|((with_reducible refine gate_callee (f:=37) rfl ?_);refine goesL_ (some 99) rfl rfl Try.func37 (by kernel_rfl) rfl #[.agg #[.int .i64 a0_0,.int .i64 a0_1,.slice A0_2 l0_2.length c0_2,.int .i64 a0_3,.int .u32 a0_4],.agg #[.int .i64 a1_0,.int .i64 a1_1,.slice A1_2 l1_2.length c1_2,.int .i64 a1_3,.int .u32 a1_4]] rfl (by (try simp only [List.map_toArray,List.map_cons,List.map_nil]);first|done|rfl|(simp only [List.length_drop,List.length_take];rfl)) ?_;(with_reducible refine (least_Same.calls kj71 a0_0 a0_1 _ _ l0_2 a0_3 a0_4 a1_0 a1_1 _ _ l1_2 a1_3 a1_4 t272 t273 _ ?side1 ?side2 ?side3 ?side4 A120.out).mono ?_);(case side1=>repeat (first|exact (Kd.C_below HR0_2.out HB.out)|(with_reducible refine Kd.C_alloc ?_ _)|(with_reducible refine Kd.C_drewN ?_ _)|(with_reducible refine Kd.C_drew ?_)));(case side2=>exact HC0_2.out);(case side3=>repeat (first|exact (Kd.C_below HR1_2.out HB.out)|(with_reducible refine Kd.C_alloc ?_ _)|(with_reducible refine Kd.C_drewN ?_ _)|(with_reducible refine Kd.C_drew ?_)));(case side4=>exact HC1_2.out);rintro e w145 ⟨rfl,hb⟩;refine ⟨_,rfl,?_⟩;have n0_:=Aside0.mk (Kd.S_below (by (with_reducible repeat (first|apply Kd.S_alloc|apply Kd.S_drewN|apply Kd.S_drew));exact HO_254002.out) hb);have n1_:=Aside0.mk (Kd.S_below (by (with_reducible repeat (first|apply Kd.S_alloc|apply Kd.S_drewN|apply Kd.S_drew));exact HO_263002.out) hb);have n2_:=Aside0.mk (blk_below (g:=gb243) (o:=.cells #[.int .i64 a0_0,.int .i64 a0_1,.slice A0_2 l0_2.length c0_2,.int .i64 a0_3,.int .u32 a0_4] 37 (0,0)) (by (with_reducible repeat (first|refine blk_drewN ?_ _|refine blk_drew ?_|refine blk_alloc ?_ _));exact BK243.out) hb);have n3_:=Aside0.mk (blk_below (g:=gb244) (o:=.cells #[.int .i64 a1_0,.int .i64 a1_1,.slice A1_2 l1_2.length c1_2,.int .i64 a1_3,.int .u32 a1_4] 37 (0,0)) (by (with_reducible repeat (first|refine blk_drewN ?_ _|refine blk_drew ?_|refine blk_alloc ?_ _));exact BK244.out) hb);have n4_:=Aside0.mk (blk_below (g:=gb253) (o:=.cells #[.int .i64 t245,.int .i64 t246,.slice Ao16 t247.length co16,.int .i64 t250,.int .u32 t251] 37 (0,0)) (by (with_reducible repeat (first|refine blk_drewN ?_ _|refine blk_drew ?_|refine blk_alloc ?_ _));exact BK253.out) hb);have n5_:=Aside0.mk (blk_below (g:=gb262) (o:=.cells #[.int .i64 t254,.int .i64 t255,.slice Ao24 t256.length co24,.int .i64 t259,.int .u32 t260] 37 (0,0)) (by (with_reducible repeat (first|refine blk_drewN ?_ _|refine blk_drew ?_|refine blk_alloc ?_ _));exact BK262.out) hb);have n6_:=Aside0.mk (below_step (by repeat (first|(with_reducible first|exact HB.out|apply below_alloc|apply pw_below_drewN|apply below_drew1|refine below_set ?_ GE243.out|refine below_set ?_ GE244.out|refine below_set ?_ GE253.out|refine below_set ?_ GE262.out)|exact HB.out)) hb);clear HO_254002;clear HO_263002;clear BK243;clear BK244;clear BK253;clear BK262;clear HB;have HO_254002:=n0_;have HO_263002:=n1_;have BK243:=n2_;have BK244:=n3_;have BK253:=n4_;have BK262:=n5_;have HB:=n6_;clear n0_ n1_ n2_ n3_ n4_ n5_ n6_;(try clear hb);(try clear hb2);(try clear hk);(try clear hi);have hcz146_0 : w145.cell? ⟨gb243,0,none⟩ = some (.int .i64 a0_0):=(blk_cell BK243.out 0).trans rfl;have hcz146_1 : w145.cell? ⟨gb243,1,none⟩ = some (.int .i64 a0_1):=(blk_cell BK243.out 1).trans rfl;have hcz146_2 : w145.cell? ⟨gb243,2,none⟩ = some (.slice A0_2 l0_2.length c0_2):=(blk_cell BK243.out 2).trans rfl;have hcz146_3 : w145.cell? ⟨gb243,3,none⟩ = some (.int .i64 a0_3):=(blk_cell BK243.out 3).trans rfl;have hcz146_4 : w145.cell? ⟨gb243,4,none⟩ = some (.int .u32 a0_4):=(blk_cell BK243.out 4).trans rfl;have hfz146_0:=blk_frozen BK243.out 0;have hfz146_1:=blk_frozen BK243.out 1;have hfz146_2:=blk_frozen BK243.out 2;have hfz146_3:=blk_frozen BK243.out 3;have hfz146_4:=blk_frozen BK243.out 4;have hcz147_0 : w145.cell? ⟨gb244,0,none⟩ = some (.int .i64 a1_0):=(blk_cell BK244.out 0).trans rfl;have hcz147_1 : w145.cell? ⟨gb244,1,none⟩ = some (.int .i64 a1_1):=(blk_cell BK244.out 1).trans rfl;have hcz147_2 : w145.cell? ⟨gb244,2,none⟩ = some (.slice A1_2 l1_2.length c1_2):=(blk_cell BK244.out 2).trans rfl;have hcz147_3 : w145.cell? ⟨gb244,3,none⟩ = some (.int .i64 a1_3):=(blk_cell BK244.out 3).trans rfl;have hcz147_4 : w145.cell? ⟨gb244,4,none⟩ = some (.int .u32 a1_4):=(blk_cell BK244.out 4).trans rfl;have hfz147_0:=blk_frozen BK244.out 0;have hfz147_1:=blk_frozen BK244.out 1;have hfz147_2:=blk_frozen BK244.out 2;have hfz147_3:=blk_frozen BK244.out 3;have hfz147_4:=blk_frozen BK244.out 4))
           go_ret
           exact ⟨by first|rfl|(simp [errW_none,errW_some] <;> rfl)|(simp [*,errW_none,errW_some] <;> rfl),by repeat (first|(with_reducible first|exact HB.out|apply below_alloc|apply pw_below_drewN|apply below_drew1|refine below_set ?_ GE243.out|refine below_set ?_ GE244.out|refine below_set ?_ GE253.out|refine below_set ?_ GE262.out)|exact HB.out)⟩
         ·rw [if_neg c121] at H
          have c121b0 : (a0_1 == a1_1) = false:=beq_eq_false_iff_ne.mpr c121
          have c121b1 : (a0_1 != a1_1) = true:=bne_iff_ne.mpr c121
          obtain rfl:=Option.some.inj H
          have hnb148:=NB243_244.out
          have hnc148:=NB244_243.out
          have hnb149:=NB243_253.out
          have hnc149:=NB253_243.out
          have hnb150:=NB243_262.out
          have hnc150:=NB262_243.out
          have hcz151_0 : wc.cell? ⟨gb243,0,none⟩ = some (.int .i64 a0_0):=(blk_cell BK243.out 0).trans rfl
          have hcz151_1 : wc.cell? ⟨gb243,1,none⟩ = some (.int .i64 a0_1):=(blk_cell BK243.out 1).trans rfl
          have hcz151_2 : wc.cell? ⟨gb243,2,none⟩ = some (.slice A0_2 l0_2.length c0_2):=(blk_cell BK243.out 2).trans rfl
          have hcz151_3 : wc.cell? ⟨gb243,3,none⟩ = some (.int .i64 a0_3):=(blk_cell BK243.out 3).trans rfl
          have hcz151_4 : wc.cell? ⟨gb243,4,none⟩ = some (.int .u32 a0_4):=(blk_cell BK243.out 4).trans rfl
          have hfz151_0:=blk_frozen BK243.out 0
          have hfz151_1:=blk_frozen BK243.out 1
          have hfz151_2:=blk_frozen BK243.out 2
          have hfz151_3:=blk_frozen BK243.out 3
          have hfz151_4:=blk_frozen BK243.out 4
          have hnb152:=NB244_253.out
          have hnc152:=NB253_244.out
          have hnb153:=NB244_262.out
          have hnc153:=NB262_244.out
          have hcz154_0 : wc.cell? ⟨gb244,0,none⟩ = some (.int .i64 a1_0):=(blk_cell BK244.out 0).trans rfl
          have hcz154_1 : wc.cell? ⟨gb244,1,none⟩ = some (.int .i64 a1_1):=(blk_cell BK244.out 1).trans rfl
          have hcz154_2 : wc.cell? ⟨gb244,2,none⟩ = some (.slice A1_2 l1_2.length c1_2):=(blk_cell BK244.out 2).trans rfl
          have hcz154_3 : wc.cell? ⟨gb244,3,none⟩ = some (.int .i64 a1_3):=(blk_cell BK244.out 3).trans rfl
          have hcz154_4 : wc.cell? ⟨gb244,4,none⟩ = some (.int .u32 a1_4):=(blk_cell BK244.out 4).trans rfl
          have hfz154_0:=blk_frozen BK244.out 0
          have hfz154_1:=blk_frozen BK244.out 1
          have hfz154_2:=blk_frozen BK244.out 2
          have hfz154_3:=blk_frozen BK244.out 3
          have hfz154_4:=blk_frozen BK244.out 4
          go_wp2_with (first|((with_reducible refine gate_callee (f:=37) rfl ?_);refine goesL_ (some 99) rfl rfl Try.func37 (by kernel_rfl) rfl #[.agg #[.int .i64 a0_0,.int .i64 a0_1,.slice A0_2 l0_2.length c0_2,.int .i64 a0_3,.int .u32 a0_4],.agg #[.int .i64 a1_0,.int .i64 a1_1,.slice A1_2 l1_2.length c1_2,.int .i64 a1_3,.int .u32 a1_4]] rfl (by (try simp only [List.map_toArray,List.map_cons,List.map_nil]);first|done|rfl|(simp only [List.length_drop,List.length_take];rfl)) ?_;(with_reducible refine (least_Same.calls kj71 a0_0 a0_1 _ _ l0_2 a0_3 a0_4 a1_0 a1_1 _ _ l1_2 a1_3 a1_4 t272 t273 _ ?side1 ?side2 ?side3 ?side4 A120.out).mono ?_);(case side1=>repeat (first|exact (Kd.C_below HR0_2.out HB.out)|(with_reducible refine Kd.C_alloc ?_ _)|(with_reducible refine Kd.C_drewN ?_ _)|(with_reducible refine Kd.C_drew ?_)));(case side2=>exact HC0_2.out);(case side3=>repeat (first|exact (Kd.C_below HR1_2.out HB.out)|(with_reducible refine Kd.C_alloc ?_ _)|(with_reducible refine Kd.C_drewN ?_ _)|(with_reducible refine Kd.C_drew ?_)));(case side4=>exact HC1_2.out);rintro e w155 ⟨rfl,hb⟩;refine ⟨_,rfl,?_⟩;have n0_:=Aside0.mk (Kd.S_below (by (with_reducible repeat (first|apply Kd.S_alloc|apply Kd.S_drewN|apply Kd.S_drew));exact HO_254002.out) hb);have n1_:=Aside0.mk (Kd.S_below (by (with_reducible repeat (first|apply Kd.S_alloc|apply Kd.S_drewN|apply Kd.S_drew));exact HO_263002.out) hb);have n2_:=Aside0.mk (blk_below (g:=gb243) (o:=.cells #[.int .i64 a0_0,.int .i64 a0_1,.slice A0_2 l0_2.length c0_2,.int .i64 a0_3,.int .u32 a0_4] 37 (0,0)) (by (with_reducible repeat (first|refine blk_drewN ?_ _|refine blk_drew ?_|refine blk_alloc ?_ _));exact BK243.out) hb);have n3_:=Aside0.mk (blk_below (g:=gb244) (o:=.cells #[.int .i64 a1_0,.int .i64 a1_1,.slice A1_2 l1_2.length c1_2,.int .i64 a1_3,.int .u32 a1_4] 37 (0,0)) (by (with_reducible repeat (first|refine blk_drewN ?_ _|refine blk_drew ?_|refine blk_alloc ?_ _));exact BK244.out) hb);have n4_:=Aside0.mk (blk_below (g:=gb253) (o:=.cells #[.int .i64 t245,.int .i64 t246,.slice Ao16 t247.length co16,.int .i64 t250,.int .u32 t251] 37 (0,0)) (by (with_reducible repeat (first|refine blk_drewN ?_ _|refine blk_drew ?_|refine blk_alloc ?_ _));exact BK253.out) hb);have n5_:=Aside0.mk (blk_below (g:=gb262) (o:=.cells #[.int .i64 t254,.int .i64 t255,.slice Ao24 t256.length co24,.int .i64 t259,.int .u32 t260] 37 (0,0)) (by (with_reducible repeat (first|refine blk_drewN ?_ _|refine blk_drew ?_|refine blk_alloc ?_ _));exact BK262.out) hb);have n6_:=Aside0.mk (below_step (by repeat (first|(with_reducible first|exact HB.out|apply below_alloc|apply pw_below_drewN|apply below_drew1|refine below_set ?_ GE243.out|refine below_set ?_ GE244.out|refine below_set ?_ GE253.out|refine below_set ?_ GE262.out)|exact HB.out)) hb);clear HO_254002;clear HO_263002;clear BK243;clear BK244;clear BK253;clear BK262;clear HB;have HO_254002:=n0_;have HO_263002:=n1_;have BK243:=n2_;have BK244:=n3_;have BK253:=n4_;have BK262:=n5_;have HB:=n6_;clear n0_ n1_ n2_ n3_ n4_ n5_ n6_;(try clear hb);(try clear hb2);(try clear hk);(try clear hi);have hcz156_0 : w155.cell? ⟨gb243,0,none⟩ = some (.int .i64 a0_0):=(blk_cell BK243.out 0).trans rfl;have hcz156_1 : w155.cell? ⟨gb243,1,none⟩ = some (.int .i64 a0_1):=(blk_cell BK243.out 1).trans rfl;have hcz156_2 : w155.cell? ⟨gb243,2,none⟩ = some (.slice A0_2 l0_2.length c0_2):=(blk_cell BK243.out 2).trans rfl;have hcz156_3 : w155.cell? ⟨gb243,3,none⟩ = some (.int .i64 a0_3):=(blk_cell BK243.out 3).trans rfl;have hcz156_4 : w155.cell? ⟨gb243,4,none⟩ = some (.int .u32 a0_4):=(blk_cell BK243.out 4).trans rfl;have hfz156_0:=blk_frozen BK243.out 0;have hfz156_1:=blk_frozen BK243.out 1;have hfz156_2:=blk_frozen BK243.out 2;have hfz156_3:=blk_frozen BK243.out 3;have hfz156_4:=blk_frozen BK243.out 4;have hcz157_0 : w155.cell? ⟨gb244,0,none⟩ = some (.int .i64 a1_0):=(blk_cell BK244.out 0).trans rfl;have hcz157_1 : w155.cell? ⟨gb244,1,none⟩ = some (.int .i64 a1_1):=(blk_cell BK244.out 1).trans rfl;have hcz157_2 : w155.cell? ⟨gb244,2,none⟩ = some (.slice A1_2 l1_2.length c1_2):=(blk_cell BK244.out 2).trans rfl;have hcz157_3 : w155.cell? ⟨gb244,3,none⟩ = some (.int .i64 a1_3):=(blk_cell BK244.out 3).trans rfl;have hcz157_4 : w155.cell? ⟨gb244,4,none⟩ = some (.int .u32 a1_4):=(blk_cell BK244.out 4).trans rfl;have hfz157_0:=blk_frozen BK244.out 0;have hfz157_1:=blk_frozen BK244.out 1;have hfz157_2:=blk_frozen BK244.out 2;have hfz157_3:=blk_frozen BK244.out 3;have hfz157_4:=blk_frozen BK244.out 4))
          go_ret
          exact ⟨by first|rfl|(simp [errW_none,errW_some] <;> rfl)|(simp [*,errW_none,errW_some] <;> rfl),by repeat (first|(with_reducible first|exact HB.out|apply below_alloc|apply pw_below_drewN|apply below_drew1|refine below_set ?_ GE243.out|refine below_set ?_ GE244.out|refine below_set ?_ GE253.out|refine below_set ?_ GE262.out)|exact HB.out)⟩
/-- THE ONE PURE STATEMENT of coppicerkeep_LeastFew: yours. -/
def coppicerkeep_LeastFew.Pure : Prop:=∀ (a0_0 : Int) (a0_1 : Int) (l0_2 : List (List Int)) (a0_3 : Int) (a0_4 : Int) (a1_0 : Int) (a1_1 : Int) (l1_2 : List (List Int)) (a1_3 : Int) (a1_4 : Int) (l2 : List Int),((Lit.int .i64 a0_0).wf = true) → ((Lit.int .i64 a0_1).wf = true) → (l0_2.length ≤ 9223372036854775807 ∧ l0_2.length * 24 ≤ 140737488351232 ∧ ∀ y_ ∈ l0_2,y_.length ≤ 9223372036854775807 ∧ y_.length * 8 ≤ 140737488351232 ∧ ∀ y__ ∈ y_,(Lit.int .i64 y__).wf = true) → ((Lit.int .i64 a0_3).wf = true) → ((Lit.int .u32 a0_4).wf = true) → ((Lit.int .i64 a1_0).wf = true) → ((Lit.int .i64 a1_1).wf = true) → (l1_2.length ≤ 9223372036854775807 ∧ l1_2.length * 24 ≤ 140737488351232 ∧ ∀ y_ ∈ l1_2,y_.length ≤ 9223372036854775807 ∧ y_.length * 8 ≤ 140737488351232 ∧ ∀ y__ ∈ y_,(Lit.int .i64 y__).wf = true) → ((Lit.int .i64 a1_3).wf = true) → ((Lit.int .u32 a1_4).wf = true) → (l2.length ≤ 9223372036854775807 ∧ l2.length * 8 ≤ 140737488351232 ∧ ∀ y_ ∈ l2,(Lit.int .i64 y_).wf = true) → ∃ k,coppicerkeep_LeastFew.f k a0_0 a0_1 l0_2 a0_3 a0_4 a1_0 a1_1 l1_2 a1_3 a1_4 l2 = some true
theorem coppicerkeep_LeastFew.walk (P : coppicerkeep_LeastFew.Pure) (a0_0 : Int) (a0_1 : Int) (A0_2 : Option Addr) (l0_2 : List (List Int)) (c0_2 : Nat) (a0_3 : Int) (a0_4 : Int) (a1_0 : Int) (a1_1 : Int) (A1_2 : Option Addr) (l1_2 : List (List Int)) (c1_2 : Nat) (a1_3 : Int) (a1_4 : Int) (A2 : Option Addr) (l2 : List Int) (c2 : Nat) (w : World) (w0_0 : (Lit.int .i64 a0_0).wf = true) (w0_1 : (Lit.int .i64 a0_1).wf = true) (hr0_2 : Kd.C (Kd.slice 3 (Kd.int .i64)) w A0_2 l0_2.length l0_2) (hc0_2 : l0_2.length ≤ c0_2) (w0_2 : l0_2.length ≤ 9223372036854775807 ∧ l0_2.length * 24 ≤ 140737488351232 ∧ ∀ y_ ∈ l0_2,y_.length ≤ 9223372036854775807 ∧ y_.length * 8 ≤ 140737488351232 ∧ ∀ y__ ∈ y_,(Lit.int .i64 y__).wf = true) (w0_3 : (Lit.int .i64 a0_3).wf = true) (w0_4 : (Lit.int .u32 a0_4).wf = true) (w1_0 : (Lit.int .i64 a1_0).wf = true) (w1_1 : (Lit.int .i64 a1_1).wf = true) (hr1_2 : Kd.C (Kd.slice 3 (Kd.int .i64)) w A1_2 l1_2.length l1_2) (hc1_2 : l1_2.length ≤ c1_2) (w1_2 : l1_2.length ≤ 9223372036854775807 ∧ l1_2.length * 24 ≤ 140737488351232 ∧ ∀ y_ ∈ l1_2,y_.length ≤ 9223372036854775807 ∧ y_.length * 8 ≤ 140737488351232 ∧ ∀ y__ ∈ y_,(Lit.int .i64 y__).wf = true) (w1_3 : (Lit.int .i64 a1_3).wf = true) (w1_4 : (Lit.int .u32 a1_4).wf = true) (hr2 : Kd.C (Kd.int .i64) w A2 l2.length l2) (hc2 : l2.length ≤ c2) (w2 : l2.length ≤ 9223372036854775807 ∧ l2.length * 8 ≤ 140737488351232 ∧ ∀ y_ ∈ l2,(Lit.int .i64 y_).wf = true) :
  Calls Try.prog 13 #[.agg #[.int .i64 a0_0,.int .i64 a0_1,.slice A0_2 l0_2.length c0_2,.int .i64 a0_3,.int .u32 a0_4],.agg #[.int .i64 a1_0,.int .i64 a1_1,.slice A1_2 l1_2.length c1_2,.int .i64 a1_3,.int .u32 a1_4],.slice A2 l2.length c2] w fun e w'=>e = .returned (.bool true) ∧ Below w.heap.size w w':=by
 obtain ⟨k,h⟩:=P a0_0 a0_1 l0_2 a0_3 a0_4 a1_0 a1_1 l1_2 a1_3 a1_4 l2 w0_0 w0_1 w0_2 w0_3 w0_4 w1_0 w1_1 w1_2 w1_3 w1_4 w2
 refine (coppicerkeep_LeastFew.calls k _ _ _ _ _ _ _ _ _ _ _ _ _ _ _ _ _ true w hr0_2 hc0_2 hr1_2 hc1_2 hr2 hc2 h).mono ?_
 rintro e w' ⟨rfl,hd⟩
 exact ⟨rfl,hd⟩
end Go.Proofs.Ytiiankjmeodjdaa.GE
