-- Written by ext.py, a program of this session.
import Derived.Test.YtiiankjmeodjdaaGV0
import Derived.Test.YtiiankjmeodjdaaGV3
import Derived.Test.YtiiankjmeodjdaaGV4
import Derived.Test.YtiiankjmeodjdaaGV6
import Derived.Test.YtiiankjmeodjdaaGV8
import Derived.Test.YtiiankjmeodjdaaGV9
import Derived.Test.YtiiankjmeodjdaaGV10
namespace Go.Proofs.Ytiiankjmeodjdaa.GV
open Go.RowKit Go.Proofs.YtiiankjmeodjdaaW.PrintWords Go.Proofs.YtiiankjmeodjdaaW.PrintLast Go.Proofs.YtiiankjmeodjdaaW.PrintMore
attribute [local go_sem] max2_int min2_int max_two min_two max_three min_three max_four min_four cellIs_set   -- for this text's walks alone
set_option linter.unusedVariables false
set_option linter.unusedSimpArgs false
/-! ### coppicerkeep_TurnerBefore: function 10 -/
def coppicerkeep_TurnerBefore.j0 : Nat → List Int → Int → List Int → Int → Bool → Int → Int → List (List Int) → Int → Int → Int → Int → List (List Int) → Int → Int → Option (Bool)
 | 0,_,_,_,_,_,_,_,_,_,_,_,_,_,_,_=>none
 | k + 1,x2,x8,x9,x10,x43,x196000,x196001,x196002,x196003,x196004,x205000,x205001,x205002,x205003,x205004=>if x43 = true then (if x8 = 0 then (some (x10 != 0)) else (some true)) else (if x10 = 0 then (if x8 = 0 then ((machine_Run.f k x205000 x205001 x205002 x205003 x205004 x2).bind fun bt212=>((machine_Run.f k x196000 x196001 x196002 x196003 x196004 x9).bind fun bt215=>(if bt212.2.2 = 0 then (if (x9.length : Int) > 12 then (if bt215.2.2 = 0 then (some (bt212.2.1 == bt215.2.1)) else (some true)) else (if bt215.2.2 = 0 then (some (bt212.2.1 == bt215.2.1)) else (some false))) else (some false)))) else (some (x205000 == 0))) else (some false))
def coppicerkeep_TurnerBefore.f (k : Nat) (a0_0 : Int) (a0_1 : Int) (a0_2 : Int) (l0_3 : List (List Int)) (l0_4 : List (List (List Int))) (a0_5 : Int) (a1_0 : Int) (a1_1 : Int) (l1_2 : List (List Int)) (a1_3 : Int) (a1_4 : Int) (l2 : List Int) : Option (Bool):=(turner_Takes.f k a0_0 a0_1 a0_2 l0_3 l0_4 a0_5 a1_0 a1_1 l1_2 a1_3 a1_4).bind fun bt196=>((turner_Run.f k a0_0 a0_1 a0_2 l0_3 l0_4 a0_5 l2).bind fun bt205=>((coppicerkeep_turning.f k a0_0 a0_1 a0_2 l0_3 l0_4 a0_5).bind fun t209=>(if t209 = true then ((coppicerref_MachineCheck.f k a1_0 a1_1 l1_2 a1_3 a1_4).bind fun t210=>(if t210 = 0 then ((coppicerref_WordCheck.f k a0_1 l2).bind fun t211=>(coppicerkeep_TurnerBefore.j0 k l2 bt196.2.2.2.2.2 bt205.1 bt205.2 (t211 != 0) a1_0 a1_1 l1_2 a1_3 a1_4 bt196.1 bt196.2.1 bt196.2.2.1 bt196.2.2.2.1 bt196.2.2.2.2.1)) else (coppicerkeep_TurnerBefore.j0 k l2 bt196.2.2.2.2.2 bt205.1 bt205.2 true a1_0 a1_1 l1_2 a1_3 a1_4 bt196.1 bt196.2.1 bt196.2.2.1 bt196.2.2.2.1 bt196.2.2.2.2.1))) else (coppicerkeep_TurnerBefore.j0 k l2 bt196.2.2.2.2.2 bt205.1 bt205.2 true a1_0 a1_1 l1_2 a1_3 a1_4 bt196.1 bt196.2.1 bt196.2.2.1 bt196.2.2.2.1 bt196.2.2.2.2.1))))
theorem coppicerkeep_TurnerBefore.mono_l : ∀ k,(∀ y0 y1 y2 y3 y4 y5 y6 y7 y8 y9 y10 y11 y12 y13 y14,LeO (coppicerkeep_TurnerBefore.j0 k y0 y1 y2 y3 y4 y5 y6 y7 y8 y9 y10 y11 y12 y13 y14) (coppicerkeep_TurnerBefore.j0 (k + 1) y0 y1 y2 y3 y4 y5 y6 y7 y8 y9 y10 y11 y12 y13 y14))
 | 0=>fun _ _ _ _ _ _ _ _ _ _ _ _ _ _ _ r h=>by simp [coppicerkeep_TurnerBefore.j0] at h
 | k + 1=>by
  have ih0:=coppicerkeep_TurnerBefore.mono_l k
  ·intro y0 y1 y2 y3 y4 y5 y6 y7 y8 y9 y10 y11 y12 y13 y14
   unfold coppicerkeep_TurnerBefore.j0
   repeat' first
   | (with_reducible exact ih0 _ _ _ _ _ _ _ _ _ _ _ _ _ _ _)
   | (with_reducible exact coppicerkeep_turning.mono _ _ _ _ _ _ _)
   | (with_reducible exact coppicerref_MachineCheck.mono _ _ _ _ _ _)
   | (with_reducible exact coppicerref_WordCheck.mono _ _ _)
   | (with_reducible exact machine_Run.mono _ _ _ _ _ _ _)
   | (with_reducible exact turner_Run.mono _ _ _ _ _ _ _ _)
   | (with_reducible exact turner_Takes.mono _ _ _ _ _ _ _ _ _ _ _ _)
   | (with_reducible exact LeO.refl _)
   | (with_reducible exact LeO.none _)
   | (with_reducible refine LeO.ite ?_ ?_)
   | (with_reducible refine LeO.bind ?_ (fun _=>?_))
   | exact ih0 _ _ _ _ _ _ _ _ _ _ _ _ _ _ _
   | exact coppicerkeep_turning.mono _ _ _ _ _ _ _
   | exact coppicerref_MachineCheck.mono _ _ _ _ _ _
   | exact coppicerref_WordCheck.mono _ _ _
   | exact machine_Run.mono _ _ _ _ _ _ _
   | exact turner_Run.mono _ _ _ _ _ _ _ _
   | exact turner_Takes.mono _ _ _ _ _ _ _ _ _ _ _ _
   | exact LeO.none _
   | refine LeO.ite ?_ ?_
   | refine LeO.bind ?_ (fun _=>?_)
theorem coppicerkeep_TurnerBefore.mono : ∀ a0 a1 a2 a3 a4 a5 a6 a7 a8 a9 a10 a11 k,LeO (coppicerkeep_TurnerBefore.f k a0 a1 a2 a3 a4 a5 a6 a7 a8 a9 a10 a11) (coppicerkeep_TurnerBefore.f (k + 1) a0 a1 a2 a3 a4 a5 a6 a7 a8 a9 a10 a11):=by
 intro a0 a1 a2 a3 a4 a5 a6 a7 a8 a9 a10 a11 k
 have ih0:=coppicerkeep_TurnerBefore.mono_l k
 unfold coppicerkeep_TurnerBefore.f
 repeat' first
   | (with_reducible exact ih0 _ _ _ _ _ _ _ _ _ _ _ _ _ _ _)
   | (with_reducible exact coppicerkeep_turning.mono _ _ _ _ _ _ _)
   | (with_reducible exact coppicerref_MachineCheck.mono _ _ _ _ _ _)
   | (with_reducible exact coppicerref_WordCheck.mono _ _ _)
   | (with_reducible exact machine_Run.mono _ _ _ _ _ _ _)
   | (with_reducible exact turner_Run.mono _ _ _ _ _ _ _ _)
   | (with_reducible exact turner_Takes.mono _ _ _ _ _ _ _ _ _ _ _ _)
   | (with_reducible exact LeO.refl _)
   | (with_reducible exact LeO.none _)
   | (with_reducible refine LeO.ite ?_ ?_)
   | (with_reducible refine LeO.bind ?_ (fun _=>?_))
   | exact ih0 _ _ _ _ _ _ _ _ _ _ _ _ _ _ _
   | exact coppicerkeep_turning.mono _ _ _ _ _ _ _
   | exact coppicerref_MachineCheck.mono _ _ _ _ _ _
   | exact coppicerref_WordCheck.mono _ _ _
   | exact machine_Run.mono _ _ _ _ _ _ _
   | exact turner_Run.mono _ _ _ _ _ _ _ _
   | exact turner_Takes.mono _ _ _ _ _ _ _ _ _ _ _ _
   | exact LeO.none _
   | refine LeO.ite ?_ ?_
   | refine LeO.bind ?_ (fun _=>?_)
set_option maxHeartbeats 8000000 in
set_option maxRecDepth 100000 in
theorem coppicerkeep_TurnerBefore.calls (k : Nat) (a0_0 : Int) (a0_1 : Int) (a0_2 : Int) (A0_3 : Option Addr) (c0_3 : Nat) (l0_3 : List (List Int)) (A0_4 : Option Addr) (c0_4 : Nat) (l0_4 : List (List (List Int))) (a0_5 : Int) (a1_0 : Int) (a1_1 : Int) (A1_2 : Option Addr) (c1_2 : Nat) (l1_2 : List (List Int)) (a1_3 : Int) (a1_4 : Int) (A2 : Option Addr) (c2 : Nat) (l2 : List Int) (r : Bool) (w : World) (hr0_3 : Kd.C (Kd.slice 3 (Kd.int .i64)) w A0_3 l0_3.length l0_3) (hc0_3 : l0_3.length ≤ c0_3) (hr0_4 : Kd.C (Kd.slice 28 (Kd.slice 3 (Kd.int .i64))) w A0_4 l0_4.length l0_4) (hc0_4 : l0_4.length ≤ c0_4) (hr1_2 : Kd.C (Kd.slice 3 (Kd.int .i64)) w A1_2 l1_2.length l1_2) (hc1_2 : l1_2.length ≤ c1_2) (hr2 : Kd.C (Kd.int .i64) w A2 l2.length l2) (hc2 : l2.length ≤ c2) (h : coppicerkeep_TurnerBefore.f k a0_0 a0_1 a0_2 l0_3 l0_4 a0_5 a1_0 a1_1 l1_2 a1_3 a1_4 l2 = some r) :
  Calls Try.prog 10 #[.agg #[.int .i64 a0_0,.int .i64 a0_1,.int .i64 a0_2,.slice A0_3 l0_3.length c0_3,.slice A0_4 l0_4.length c0_4,.int .i64 a0_5],.agg #[.int .i64 a1_0,.int .i64 a1_1,.slice A1_2 l1_2.length c1_2,.int .i64 a1_3,.int .u32 a1_4],.slice A2 l2.length c2] w fun e w'=>e = .returned (.bool r) ∧ Below w.heap.size w w':=by
 have hu50:=Try.underlying50
 have hu37:=Try.underlying37
 have HR0_3:=Aside0.mk hr0_3
 have HC0_3:=Aside0.mk hc0_3
 clear hr0_3 hc0_3
 have HR0_4:=Aside0.mk hr0_4
 have HC0_4:=Aside0.mk hc0_4
 clear hr0_4 hc0_4
 have HR1_2:=Aside0.mk hr1_2
 have HC1_2:=Aside0.mk hc1_2
 clear hr1_2 hc1_2
 have HR2:=Aside0.mk hr2
 have HC2:=Aside0.mk hc2
 clear hr2 hc2
 have HB:=Aside0.mk (Below.refl w.heap.size w)
 have H : ((turner_Takes.f k a0_0 a0_1 a0_2 l0_3 l0_4 a0_5 a1_0 a1_1 l1_2 a1_3 a1_4).bind fun bt196=>((turner_Run.f k a0_0 a0_1 a0_2 l0_3 l0_4 a0_5 l2).bind fun bt205=>((coppicerkeep_turning.f k a0_0 a0_1 a0_2 l0_3 l0_4 a0_5).bind fun t209=>(if t209 = true then ((coppicerref_MachineCheck.f k a1_0 a1_1 l1_2 a1_3 a1_4).bind fun t210=>(if t210 = 0 then ((coppicerref_WordCheck.f k a0_1 l2).bind fun t211=>(coppicerkeep_TurnerBefore.j0 k l2 bt196.2.2.2.2.2 bt205.1 bt205.2 (t211 != 0) a1_0 a1_1 l1_2 a1_3 a1_4 bt196.1 bt196.2.1 bt196.2.2.1 bt196.2.2.2.1 bt196.2.2.2.2.1)) else (coppicerkeep_TurnerBefore.j0 k l2 bt196.2.2.2.2.2 bt205.1 bt205.2 true a1_0 a1_1 l1_2 a1_3 a1_4 bt196.1 bt196.2.1 bt196.2.2.1 bt196.2.2.2.1 bt196.2.2.2.2.1))) else (coppicerkeep_TurnerBefore.j0 k l2 bt196.2.2.2.2.2 bt205.1 bt205.2 true a1_0 a1_1 l1_2 a1_3 a1_4 bt196.1 bt196.2.1 bt196.2.2.1 bt196.2.2.2.1 bt196.2.2.2.2.1))))) = some r:=h
 clear h
 replace H:=Option.bind_eq_some_iff.mp H
 obtain ⟨⟨t196,t197,t198,t201,t202,t203⟩,A40,H⟩:=H
 replace H : ((turner_Run.f k a0_0 a0_1 a0_2 l0_3 l0_4 a0_5 l2).bind fun bt205=>((coppicerkeep_turning.f k a0_0 a0_1 a0_2 l0_3 l0_4 a0_5).bind fun t209=>(if t209 = true then ((coppicerref_MachineCheck.f k a1_0 a1_1 l1_2 a1_3 a1_4).bind fun t210=>(if t210 = 0 then ((coppicerref_WordCheck.f k a0_1 l2).bind fun t211=>(coppicerkeep_TurnerBefore.j0 k l2 t203 bt205.1 bt205.2 (t211 != 0) a1_0 a1_1 l1_2 a1_3 a1_4 t196 t197 t198 t201 t202)) else (coppicerkeep_TurnerBefore.j0 k l2 t203 bt205.1 bt205.2 true a1_0 a1_1 l1_2 a1_3 a1_4 t196 t197 t198 t201 t202))) else (coppicerkeep_TurnerBefore.j0 k l2 t203 bt205.1 bt205.2 true a1_0 a1_1 l1_2 a1_3 a1_4 t196 t197 t198 t201 t202)))) = some r:=H
 have A4:=Aside0.mk A40
 clear A40
 replace H:=Option.bind_eq_some_iff.mp H
 obtain ⟨⟨t205,t208⟩,A50,H⟩:=H
 replace H : ((coppicerkeep_turning.f k a0_0 a0_1 a0_2 l0_3 l0_4 a0_5).bind fun t209=>(if t209 = true then ((coppicerref_MachineCheck.f k a1_0 a1_1 l1_2 a1_3 a1_4).bind fun t210=>(if t210 = 0 then ((coppicerref_WordCheck.f k a0_1 l2).bind fun t211=>(coppicerkeep_TurnerBefore.j0 k l2 t203 t205 t208 (t211 != 0) a1_0 a1_1 l1_2 a1_3 a1_4 t196 t197 t198 t201 t202)) else (coppicerkeep_TurnerBefore.j0 k l2 t203 t205 t208 true a1_0 a1_1 l1_2 a1_3 a1_4 t196 t197 t198 t201 t202))) else (coppicerkeep_TurnerBefore.j0 k l2 t203 t205 t208 true a1_0 a1_1 l1_2 a1_3 a1_4 t196 t197 t198 t201 t202))) = some r:=H
 have A5:=Aside0.mk A50
 clear A50
 have HC6:=Aside0.mk H
 clear H
 go_enter Try.func10,Try.ntmps10
 go_upto_region 3 with (first|((with_reducible refine gate_dst (N:=3) rfl ?_);(try (refine gate_guard (by rfl) ?_;dsimp only));refine box_event ?hg (N:=3) ?hd (cs:=#[.int .i64 a0_0,.int .i64 a0_1,.int .i64 a0_2,.slice A0_3 l0_3.length c0_3,.slice A0_4 l0_4.length c0_4,.int .i64 a0_5]) (t:=50) ?hr ?_;(case hd=>rfl);(case hg=>rfl);(case hr=>first|(go_simp;done)|(go_simp;rfl));intro gb194 hg w7 hbox hb;have n0_:=Aside0.mk (below_step (by repeat (first|(with_reducible first|exact HB.out|apply below_alloc|apply pw_below_drewN|apply below_drew1)|exact HB.out)) hb);have n1_:=Aside0.mk (hbox);have n2_:=Aside0.mk ((by rw [hg];exact (below_size (by repeat (first|(with_reducible first|exact HB.out|apply below_alloc|apply pw_below_drewN|apply below_drew1)|exact HB.out))) : w.heap.size ≤ gb194));have n3_:=Aside0.mk ((by rw [hg];exact (below_size (by repeat (first|(with_reducible first|exact HB.out|apply below_alloc|apply pw_below_drewN|apply below_drew1)|exact HB.out))) : w.heap.size ≤ gb194));clear HB;have HB:=n0_;have BK194:=n1_;have GW194:=n2_;have GE194:=n3_;clear n0_ n1_ n2_ n3_;clear hb hbox hg)|((with_reducible refine gate_dst (N:=4) rfl ?_);(try (refine gate_guard (by rfl) ?_;dsimp only));refine box_event ?hg (N:=4) ?hd (cs:=#[.int .i64 a1_0,.int .i64 a1_1,.slice A1_2 l1_2.length c1_2,.int .i64 a1_3,.int .u32 a1_4]) (t:=37) ?hr ?_;(case hd=>rfl);(case hg=>rfl);(case hr=>first|(go_simp;done)|(go_simp;rfl));intro gb195 hg w8 hbox hb;have n0_:=Aside0.mk (blk_below (g:=gb194) (o:=.cells #[.int .i64 a0_0,.int .i64 a0_1,.int .i64 a0_2,.slice A0_3 l0_3.length c0_3,.slice A0_4 l0_4.length c0_4,.int .i64 a0_5] 50 (0,0)) (by (with_reducible repeat (first|refine blk_drewN ?_ _|refine blk_drew ?_|refine blk_alloc ?_ _));exact BK194.out) hb);have n1_:=Aside0.mk (below_step (by repeat (first|(with_reducible first|exact HB.out|apply below_alloc|apply pw_below_drewN|apply below_drew1|refine below_set ?_ GE194.out)|exact HB.out)) hb);have n2_:=Aside0.mk (hbox);have n3_:=Aside0.mk ((by rw [hg];exact (below_size (by repeat (first|(with_reducible first|exact HB.out|apply below_alloc|apply pw_below_drewN|apply below_drew1|refine below_set ?_ GE194.out)|exact HB.out))) : w.heap.size ≤ gb195));have n4_:=Aside0.mk ((by rw [hg];exact (below_size (by repeat (first|(with_reducible first|exact HB.out|apply below_alloc|apply pw_below_drewN|apply below_drew1|refine below_set ?_ GE194.out)|exact HB.out))) : w.heap.size ≤ gb195));have n5_:=Aside0.mk ((by rw [hg];exact Nat.ne_of_lt (blk_lt (g:=gb194) (o:=.cells #[.int .i64 a0_0,.int .i64 a0_1,.int .i64 a0_2,.slice A0_3 l0_3.length c0_3,.slice A0_4 l0_4.length c0_4,.int .i64 a0_5] 50 (0,0)) (by (with_reducible repeat (first|refine blk_drewN ?_ _|refine blk_drew ?_|refine blk_alloc ?_ _));exact BK194.out)) : gb194 ≠ gb195));have n6_:=Aside0.mk ((by rw [hg];exact Nat.ne_of_gt (blk_lt (g:=gb194) (o:=.cells #[.int .i64 a0_0,.int .i64 a0_1,.int .i64 a0_2,.slice A0_3 l0_3.length c0_3,.slice A0_4 l0_4.length c0_4,.int .i64 a0_5] 50 (0,0)) (by (with_reducible repeat (first|refine blk_drewN ?_ _|refine blk_drew ?_|refine blk_alloc ?_ _));exact BK194.out)) : gb195 ≠ gb194));clear BK194;clear HB;have BK194:=n0_;have HB:=n1_;have BK195:=n2_;have GW195:=n3_;have GE195:=n4_;have NB194_195:=n5_;have NB195_194:=n6_;clear n0_ n1_ n2_ n3_ n4_ n5_ n6_;clear hb hbox hg;have hnb9:=NB194_195.out;have hnc9:=NB195_194.out;have hcz10_0 : w8.cell? ⟨gb194,0,none⟩ = some (.int .i64 a0_0):=(blk_cell BK194.out 0).trans rfl;have hcz10_1 : w8.cell? ⟨gb194,1,none⟩ = some (.int .i64 a0_1):=(blk_cell BK194.out 1).trans rfl;have hcz10_2 : w8.cell? ⟨gb194,2,none⟩ = some (.int .i64 a0_2):=(blk_cell BK194.out 2).trans rfl;have hcz10_3 : w8.cell? ⟨gb194,3,none⟩ = some (.slice A0_3 l0_3.length c0_3):=(blk_cell BK194.out 3).trans rfl;have hcz10_4 : w8.cell? ⟨gb194,4,none⟩ = some (.slice A0_4 l0_4.length c0_4):=(blk_cell BK194.out 4).trans rfl;have hcz10_5 : w8.cell? ⟨gb194,5,none⟩ = some (.int .i64 a0_5):=(blk_cell BK194.out 5).trans rfl;have hfz10_0:=blk_frozen BK194.out 0;have hfz10_1:=blk_frozen BK194.out 1;have hfz10_2:=blk_frozen BK194.out 2;have hfz10_3:=blk_frozen BK194.out 3;have hfz10_4:=blk_frozen BK194.out 4;have hfz10_5:=blk_frozen BK194.out 5;have hcz11_0 : w8.cell? ⟨gb195,0,none⟩ = some (.int .i64 a1_0):=(blk_cell BK195.out 0).trans rfl;have hcz11_1 : w8.cell? ⟨gb195,1,none⟩ = some (.int .i64 a1_1):=(blk_cell BK195.out 1).trans rfl;have hcz11_2 : w8.cell? ⟨gb195,2,none⟩ = some (.slice A1_2 l1_2.length c1_2):=(blk_cell BK195.out 2).trans rfl;have hcz11_3 : w8.cell? ⟨gb195,3,none⟩ = some (.int .i64 a1_3):=(blk_cell BK195.out 3).trans rfl;have hcz11_4 : w8.cell? ⟨gb195,4,none⟩ = some (.int .u32 a1_4):=(blk_cell BK195.out 4).trans rfl;have hfz11_0:=blk_frozen BK195.out 0;have hfz11_1:=blk_frozen BK195.out 1;have hfz11_2:=blk_frozen BK195.out 2;have hfz11_3:=blk_frozen BK195.out 3;have hfz11_4:=blk_frozen BK195.out 4)|((with_reducible refine gate_callee (f:=30) rfl ?_);refine goesL_ (some 20) rfl rfl Try.func30 (by kernel_rfl) rfl #[.agg #[.int .i64 a0_0,.int .i64 a0_1,.int .i64 a0_2,.slice A0_3 l0_3.length c0_3,.slice A0_4 l0_4.length c0_4,.int .i64 a0_5],.agg #[.int .i64 a1_0,.int .i64 a1_1,.slice A1_2 l1_2.length c1_2,.int .i64 a1_3,.int .u32 a1_4]] rfl (by (try simp only [List.map_toArray,List.map_cons,List.map_nil]);first|done|rfl|(simp only [List.length_drop,List.length_take];rfl)) ?_;(with_reducible refine (turner_Takes.calls k a0_0 a0_1 a0_2 _ _ l0_3 _ _ l0_4 a0_5 a1_0 a1_1 _ _ l1_2 a1_3 a1_4 t196 t197 t198 t201 t202 t203 _ ?side1 ?side2 ?side3 ?side4 ?side5 ?side6 A4.out).mono ?_);(case side1=>repeat (first|exact (Kd.C_below HR0_3.out HB.out)|(with_reducible refine Kd.C_alloc ?_ _)|(with_reducible refine Kd.C_drewN ?_ _)|(with_reducible refine Kd.C_drew ?_)));(case side2=>exact HC0_3.out);(case side3=>repeat (first|exact (Kd.C_below HR0_4.out HB.out)|(with_reducible refine Kd.C_alloc ?_ _)|(with_reducible refine Kd.C_drewN ?_ _)|(with_reducible refine Kd.C_drew ?_)));(case side4=>exact HC0_4.out);(case side5=>repeat (first|exact (Kd.C_below HR1_2.out HB.out)|(with_reducible refine Kd.C_alloc ?_ _)|(with_reducible refine Kd.C_drewN ?_ _)|(with_reducible refine Kd.C_drew ?_)));(case side6=>exact HC1_2.out);rintro e w12 ⟨v199,rfl,ho0,hb⟩;refine ⟨_,rfl,?_⟩;have n0_:=Aside0.mk (Kd.S_lower ho0 (below_size (by repeat (first|(with_reducible first|exact HB.out|apply below_alloc|apply pw_below_drewN|apply below_drew1|refine below_set ?_ GE194.out|refine below_set ?_ GE195.out)|exact HB.out))));have n1_:=Aside0.mk (blk_below (g:=gb194) (o:=.cells #[.int .i64 a0_0,.int .i64 a0_1,.int .i64 a0_2,.slice A0_3 l0_3.length c0_3,.slice A0_4 l0_4.length c0_4,.int .i64 a0_5] 50 (0,0)) (by (with_reducible repeat (first|refine blk_drewN ?_ _|refine blk_drew ?_|refine blk_alloc ?_ _));exact BK194.out) hb);have n2_:=Aside0.mk (blk_below (g:=gb195) (o:=.cells #[.int .i64 a1_0,.int .i64 a1_1,.slice A1_2 l1_2.length c1_2,.int .i64 a1_3,.int .u32 a1_4] 37 (0,0)) (by (with_reducible repeat (first|refine blk_drewN ?_ _|refine blk_drew ?_|refine blk_alloc ?_ _));exact BK195.out) hb);have n3_:=Aside0.mk (below_step (by repeat (first|(with_reducible first|exact HB.out|apply below_alloc|apply pw_below_drewN|apply below_drew1|refine below_set ?_ GE194.out|refine below_set ?_ GE195.out)|exact HB.out)) hb);clear BK194;clear BK195;clear HB;have HO200:=n0_;have BK194:=n1_;have BK195:=n2_;have HB:=n3_;clear n0_ n1_ n2_ n3_;(try clear hb);(try clear hb2);(try clear hk);(try clear hi);(try clear ho0))|((with_reducible refine gate_dst (N:=7) rfl ?_);(try (refine gate_guard (by rfl) ?_;dsimp only));refine box_event ?hg (N:=7) ?hd (cs:=#[.int .i64 0,.int .i64 0,.slice none 0 0,.int .i64 0,.int .u32 0]) (t:=37) ?hr ?_;(case hd=>rfl);(case hg=>rfl);(case hr=>first|(go_simp;done)|(go_simp;rfl));intro gb204 hg w13 hbox hb;have n0_:=Aside0.mk (Kd.S_below (by (with_reducible repeat (first|apply Kd.S_alloc|apply Kd.S_drewN|apply Kd.S_drew));exact HO200.out) hb);have n1_:=Aside0.mk (blk_below (g:=gb194) (o:=.cells #[.int .i64 a0_0,.int .i64 a0_1,.int .i64 a0_2,.slice A0_3 l0_3.length c0_3,.slice A0_4 l0_4.length c0_4,.int .i64 a0_5] 50 (0,0)) (by (with_reducible repeat (first|refine blk_drewN ?_ _|refine blk_drew ?_|refine blk_alloc ?_ _));exact BK194.out) hb);have n2_:=Aside0.mk (blk_below (g:=gb195) (o:=.cells #[.int .i64 a1_0,.int .i64 a1_1,.slice A1_2 l1_2.length c1_2,.int .i64 a1_3,.int .u32 a1_4] 37 (0,0)) (by (with_reducible repeat (first|refine blk_drewN ?_ _|refine blk_drew ?_|refine blk_alloc ?_ _));exact BK195.out) hb);have n3_:=Aside0.mk (below_step (by repeat (first|(with_reducible first|exact HB.out|apply below_alloc|apply pw_below_drewN|apply below_drew1|refine below_set ?_ GE194.out|refine below_set ?_ GE195.out)|exact HB.out)) hb);have n4_:=Aside0.mk (hbox);have n5_:=Aside0.mk ((by rw [hg];exact (below_size (by repeat (first|(with_reducible first|exact HB.out|apply below_alloc|apply pw_below_drewN|apply below_drew1|refine below_set ?_ GE194.out|refine below_set ?_ GE195.out)|exact HB.out))) : w.heap.size ≤ gb204));have n6_:=Aside0.mk ((by rw [hg];exact (below_size (by repeat (first|(with_reducible first|exact HB.out|apply below_alloc|apply pw_below_drewN|apply below_drew1|refine below_set ?_ GE194.out|refine below_set ?_ GE195.out)|exact HB.out))) : w.heap.size ≤ gb204));have n7_:=Aside0.mk ((by rw [hg];exact Nat.ne_of_lt (blk_lt (g:=gb194) (o:=.cells #[.int .i64 a0_0,.int .i64 a0_1,.int .i64 a0_2,.slice A0_3 l0_3.length c0_3,.slice A0_4 l0_4.length c0_4,.int .i64 a0_5] 50 (0,0)) (by (with_reducible repeat (first|refine blk_drewN ?_ _|refine blk_drew ?_|refine blk_alloc ?_ _));exact BK194.out)) : gb194 ≠ gb204));have n8_:=Aside0.mk ((by rw [hg];exact Nat.ne_of_gt (blk_lt (g:=gb194) (o:=.cells #[.int .i64 a0_0,.int .i64 a0_1,.int .i64 a0_2,.slice A0_3 l0_3.length c0_3,.slice A0_4 l0_4.length c0_4,.int .i64 a0_5] 50 (0,0)) (by (with_reducible repeat (first|refine blk_drewN ?_ _|refine blk_drew ?_|refine blk_alloc ?_ _));exact BK194.out)) : gb204 ≠ gb194));have n9_:=Aside0.mk ((by rw [hg];exact Nat.ne_of_lt (blk_lt (g:=gb195) (o:=.cells #[.int .i64 a1_0,.int .i64 a1_1,.slice A1_2 l1_2.length c1_2,.int .i64 a1_3,.int .u32 a1_4] 37 (0,0)) (by (with_reducible repeat (first|refine blk_drewN ?_ _|refine blk_drew ?_|refine blk_alloc ?_ _));exact BK195.out)) : gb195 ≠ gb204));have n10_:=Aside0.mk ((by rw [hg];exact Nat.ne_of_gt (blk_lt (g:=gb195) (o:=.cells #[.int .i64 a1_0,.int .i64 a1_1,.slice A1_2 l1_2.length c1_2,.int .i64 a1_3,.int .u32 a1_4] 37 (0,0)) (by (with_reducible repeat (first|refine blk_drewN ?_ _|refine blk_drew ?_|refine blk_alloc ?_ _));exact BK195.out)) : gb204 ≠ gb195));clear HO200;clear BK194;clear BK195;clear HB;have HO200:=n0_;have BK194:=n1_;have BK195:=n2_;have HB:=n3_;have BK204:=n4_;have GW204:=n5_;have GE204:=n6_;have NB194_204:=n7_;have NB204_194:=n8_;have NB195_204:=n9_;have NB204_195:=n10_;clear n0_ n1_ n2_ n3_ n4_ n5_ n6_ n7_ n8_ n9_ n10_;clear hb hbox hg;have hnb14:=NB204_194.out;have hnc14:=NB194_204.out;have hnb15:=NB204_195.out;have hnc15:=NB195_204.out;have hcz16_0 : w13.cell? ⟨gb204,0,none⟩ = some (.int .i64 0):=(blk_cell BK204.out 0).trans rfl;have hcz16_1 : w13.cell? ⟨gb204,1,none⟩ = some (.int .i64 0):=(blk_cell BK204.out 1).trans rfl;have hcz16_2 : w13.cell? ⟨gb204,2,none⟩ = some (.slice none 0 0):=(blk_cell BK204.out 2).trans rfl;have hcz16_3 : w13.cell? ⟨gb204,3,none⟩ = some (.int .i64 0):=(blk_cell BK204.out 3).trans rfl;have hcz16_4 : w13.cell? ⟨gb204,4,none⟩ = some (.int .u32 0):=(blk_cell BK204.out 4).trans rfl;have hfz16_0:=blk_frozen BK204.out 0;have hfz16_1:=blk_frozen BK204.out 1;have hfz16_2:=blk_frozen BK204.out 2;have hfz16_3:=blk_frozen BK204.out 3;have hfz16_4:=blk_frozen BK204.out 4;obtain ⟨Ao17,co17,eo17⟩:=Kd.S_slice HO200.out;subst eo17;have hcz18_0 : w13.cell? ⟨gb194,0,none⟩ = some (.int .i64 a0_0):=(blk_cell BK194.out 0).trans rfl;have hcz18_1 : w13.cell? ⟨gb194,1,none⟩ = some (.int .i64 a0_1):=(blk_cell BK194.out 1).trans rfl;have hcz18_2 : w13.cell? ⟨gb194,2,none⟩ = some (.int .i64 a0_2):=(blk_cell BK194.out 2).trans rfl;have hcz18_3 : w13.cell? ⟨gb194,3,none⟩ = some (.slice A0_3 l0_3.length c0_3):=(blk_cell BK194.out 3).trans rfl;have hcz18_4 : w13.cell? ⟨gb194,4,none⟩ = some (.slice A0_4 l0_4.length c0_4):=(blk_cell BK194.out 4).trans rfl;have hcz18_5 : w13.cell? ⟨gb194,5,none⟩ = some (.int .i64 a0_5):=(blk_cell BK194.out 5).trans rfl;have hfz18_0:=blk_frozen BK194.out 0;have hfz18_1:=blk_frozen BK194.out 1;have hfz18_2:=blk_frozen BK194.out 2;have hfz18_3:=blk_frozen BK194.out 3;have hfz18_4:=blk_frozen BK194.out 4;have hfz18_5:=blk_frozen BK194.out 5)|((with_reducible refine gate_callee (f:=23) rfl ?_);refine goesL_ (some 26) rfl rfl Try.func23 (by kernel_rfl) rfl #[.agg #[.int .i64 a0_0,.int .i64 a0_1,.int .i64 a0_2,.slice A0_3 l0_3.length c0_3,.slice A0_4 l0_4.length c0_4,.int .i64 a0_5],.slice A2 l2.length c2] rfl (by (try simp only [List.map_toArray,List.map_cons,List.map_nil]);first|done|rfl|(simp only [List.length_drop,List.length_take];rfl)) ?_;(with_reducible refine (turner_Run.calls k a0_0 a0_1 a0_2 _ _ l0_3 _ _ l0_4 a0_5 _ _ l2 t205 t208 _ ?side1 ?side2 ?side3 ?side4 ?side5 ?side6 A5.out).mono ?_);(case side1=>exact Kd.C_below HR0_3.out (by repeat (first|(with_reducible first|exact HB.out|apply below_alloc|apply pw_below_drewN|apply below_drew1|refine below_set ?_ GE194.out|refine below_set ?_ GE195.out|refine below_set ?_ GE204.out)|exact HB.out)));(case side2=>exact HC0_3.out);(case side3=>exact Kd.C_below HR0_4.out (by repeat (first|(with_reducible first|exact HB.out|apply below_alloc|apply pw_below_drewN|apply below_drew1|refine below_set ?_ GE194.out|refine below_set ?_ GE195.out|refine below_set ?_ GE204.out)|exact HB.out)));(case side4=>exact HC0_4.out);(case side5=>exact Kd.C_below HR2.out (by repeat (first|(with_reducible first|exact HB.out|apply below_alloc|apply pw_below_drewN|apply below_drew1|refine below_set ?_ GE194.out|refine below_set ?_ GE195.out|refine below_set ?_ GE204.out)|exact HB.out)));(case side6=>exact HC2.out);rintro e w19 ⟨v206,rfl,ho0,hb⟩;refine ⟨_,rfl,?_⟩;have n0_:=Aside0.mk (Kd.S_elder' (by (with_reducible repeat (first|apply Kd.S_alloc|apply Kd.S_drewN|apply Kd.S_drew));exact (Kd.S_mono (Kd.S_far (p:=⟨gb204,4,none⟩) (Kd.S_far (p:=⟨gb204,3,none⟩) (Kd.S_far (p:=⟨gb204,2,none⟩) (Kd.S_far (p:=⟨gb204,1,none⟩) (Kd.S_far (p:=⟨gb204,0,none⟩) (Kd.S_types HO200.out BK204.out (by decide)) (fun _ hk=>hk.2) (.int .i64 t196)) (fun _ hk=>hk.2) (.int .i64 t197)) (fun _ hk=>hk.2) (.slice Ao17 t198.length co17)) (fun _ hk=>hk.2) (.int .i64 t201)) (fun _ hk=>hk.2) (.int .u32 t202)) (fun _ h_=>h_.1))) (Kd.R_base ho0) hb);have n1_:=Aside0.mk (Kd.R_lower ho0 (below_size (by repeat (first|(with_reducible first|exact HB.out|apply below_alloc|apply pw_below_drewN|apply below_drew1|refine below_set ?_ GE194.out|refine below_set ?_ GE195.out|refine below_set ?_ GE204.out)|exact HB.out))));have n2_:=Aside0.mk (blk_below (g:=gb194) (o:=.cells #[.int .i64 a0_0,.int .i64 a0_1,.int .i64 a0_2,.slice A0_3 l0_3.length c0_3,.slice A0_4 l0_4.length c0_4,.int .i64 a0_5] 50 (0,0)) (by (with_reducible repeat (first|refine blk_drewN ?_ _|refine blk_drew ?_|refine blk_alloc ?_ _));refine blk_far ?_ NB194_204.out _;(with_reducible repeat (first|refine blk_drewN ?_ _|refine blk_drew ?_|refine blk_alloc ?_ _));refine blk_far ?_ NB194_204.out _;(with_reducible repeat (first|refine blk_drewN ?_ _|refine blk_drew ?_|refine blk_alloc ?_ _));refine blk_far ?_ NB194_204.out _;(with_reducible repeat (first|refine blk_drewN ?_ _|refine blk_drew ?_|refine blk_alloc ?_ _));refine blk_far ?_ NB194_204.out _;(with_reducible repeat (first|refine blk_drewN ?_ _|refine blk_drew ?_|refine blk_alloc ?_ _));refine blk_far ?_ NB194_204.out _;(with_reducible repeat (first|refine blk_drewN ?_ _|refine blk_drew ?_|refine blk_alloc ?_ _));exact BK194.out) hb);have n3_:=Aside0.mk (blk_below (g:=gb195) (o:=.cells #[.int .i64 a1_0,.int .i64 a1_1,.slice A1_2 l1_2.length c1_2,.int .i64 a1_3,.int .u32 a1_4] 37 (0,0)) (by (with_reducible repeat (first|refine blk_drewN ?_ _|refine blk_drew ?_|refine blk_alloc ?_ _));refine blk_far ?_ NB195_204.out _;(with_reducible repeat (first|refine blk_drewN ?_ _|refine blk_drew ?_|refine blk_alloc ?_ _));refine blk_far ?_ NB195_204.out _;(with_reducible repeat (first|refine blk_drewN ?_ _|refine blk_drew ?_|refine blk_alloc ?_ _));refine blk_far ?_ NB195_204.out _;(with_reducible repeat (first|refine blk_drewN ?_ _|refine blk_drew ?_|refine blk_alloc ?_ _));refine blk_far ?_ NB195_204.out _;(with_reducible repeat (first|refine blk_drewN ?_ _|refine blk_drew ?_|refine blk_alloc ?_ _));refine blk_far ?_ NB195_204.out _;(with_reducible repeat (first|refine blk_drewN ?_ _|refine blk_drew ?_|refine blk_alloc ?_ _));exact BK195.out) hb);have n4_:=Aside0.mk (blk_below (g:=gb204) (o:=.cells #[.int .i64 t196,.int .i64 t197,.slice Ao17 t198.length co17,.int .i64 t201,.int .u32 t202] 37 (0,0)) (by (with_reducible repeat (first|refine blk_drewN ?_ _|refine blk_drew ?_|refine blk_alloc ?_ _));refine blk_put (cs:=#[.int .i64 t196,.int .i64 t197,.slice Ao17 t198.length co17,.int .i64 t201,.int .u32 0]) ?_ 4 _ rfl;(with_reducible repeat (first|refine blk_drewN ?_ _|refine blk_drew ?_|refine blk_alloc ?_ _));refine blk_put (cs:=#[.int .i64 t196,.int .i64 t197,.slice Ao17 t198.length co17,.int .i64 0,.int .u32 0]) ?_ 3 _ rfl;(with_reducible repeat (first|refine blk_drewN ?_ _|refine blk_drew ?_|refine blk_alloc ?_ _));refine blk_put (cs:=#[.int .i64 t196,.int .i64 t197,.slice none 0 0,.int .i64 0,.int .u32 0]) ?_ 2 _ rfl;(with_reducible repeat (first|refine blk_drewN ?_ _|refine blk_drew ?_|refine blk_alloc ?_ _));refine blk_put (cs:=#[.int .i64 t196,.int .i64 0,.slice none 0 0,.int .i64 0,.int .u32 0]) ?_ 1 _ rfl;(with_reducible repeat (first|refine blk_drewN ?_ _|refine blk_drew ?_|refine blk_alloc ?_ _));refine blk_put (cs:=#[.int .i64 0,.int .i64 0,.slice none 0 0,.int .i64 0,.int .u32 0]) ?_ 0 _ rfl;(with_reducible repeat (first|refine blk_drewN ?_ _|refine blk_drew ?_|refine blk_alloc ?_ _));exact BK204.out) hb);have n5_:=Aside0.mk (below_step (by repeat (first|(with_reducible first|exact HB.out|apply below_alloc|apply pw_below_drewN|apply below_drew1|refine below_set ?_ GE194.out|refine below_set ?_ GE195.out|refine below_set ?_ GE204.out)|exact HB.out)) hb);clear HO200;clear BK194;clear BK195;clear BK204;clear HB;have HO200:=n0_;have HO207:=n1_;have BK194:=n2_;have BK195:=n3_;have BK204:=n4_;have HB:=n5_;clear n0_ n1_ n2_ n3_ n4_ n5_;(try clear hb);(try clear hb2);(try clear hk);(try clear hi);(try clear ho0)))
 (try simp only [Act.put,List.setIfInBounds_toArray,List.set_cons_zero,List.set_cons_succ])
 go_cut [43] (fun v43 wc=>∃ (kq : Nat) (x43_5 : Bool),v43 = .bool x43_5 ∧ Aside0 (coppicerkeep_TurnerBefore.j0 kq l2 t203 t205 t208 x43_5 a1_0 a1_1 l1_2 a1_3 a1_4 t196 t197 t198 t201 t202 = some r) ∧ Aside0 (kq ≤ k) ∧ Aside0 (Kd.R (Kd.int .i64) 3 wc w.heap.size (fun _=>True) v206 t205) ∧ Aside0 (Kd.S (Kd.slice 3 (Kd.int .i64)) 28 wc w.heap.size (fun k_=>some k_ ≠ (v206 : Value).ownBlock) (.slice Ao17 t198.length co17) t198) ∧ Aside0 (wc.heap[gb194]? = some (.cells #[.int .i64 a0_0,.int .i64 a0_1,.int .i64 a0_2,(.slice A0_3 l0_3.length c0_3),(.slice A0_4 l0_4.length c0_4),.int .i64 a0_5] 50 (0,0))) ∧ Aside0 (wc.heap[gb195]? = some (.cells #[.int .i64 a1_0,.int .i64 a1_1,(.slice A1_2 l1_2.length c1_2),.int .i64 a1_3,.int .u32 a1_4] 37 (0,0))) ∧ Aside0 (wc.heap[gb204]? = some (.cells #[.int .i64 t196,.int .i64 t197,(.slice Ao17 t198.length co17),.int .i64 t201,.int .u32 t202] 37 (0,0))) ∧ Aside0 (Below w.heap.size w wc))
 case first =>
  have H:=HC6.out
  clear HC6
  replace H:=Option.bind_eq_some_iff.mp H
  obtain ⟨t209,A200,H⟩:=H
  replace H : (if t209 = true then ((coppicerref_MachineCheck.f k a1_0 a1_1 l1_2 a1_3 a1_4).bind fun t210=>(if t210 = 0 then ((coppicerref_WordCheck.f k a0_1 l2).bind fun t211=>(coppicerkeep_TurnerBefore.j0 k l2 t203 t205 t208 (t211 != 0) a1_0 a1_1 l1_2 a1_3 a1_4 t196 t197 t198 t201 t202)) else (coppicerkeep_TurnerBefore.j0 k l2 t203 t205 t208 true a1_0 a1_1 l1_2 a1_3 a1_4 t196 t197 t198 t201 t202))) else (coppicerkeep_TurnerBefore.j0 k l2 t203 t205 t208 true a1_0 a1_1 l1_2 a1_3 a1_4 t196 t197 t198 t201 t202)) = some r:=H
  have A20:=Aside0.mk A200
  clear A200
  by_cases c21 : t209 = true
  ·subst c21
   have H1 : ((coppicerref_MachineCheck.f k a1_0 a1_1 l1_2 a1_3 a1_4).bind fun t210=>(if t210 = 0 then ((coppicerref_WordCheck.f k a0_1 l2).bind fun t211=>(coppicerkeep_TurnerBefore.j0 k l2 t203 t205 t208 (t211 != 0) a1_0 a1_1 l1_2 a1_3 a1_4 t196 t197 t198 t201 t202)) else (coppicerkeep_TurnerBefore.j0 k l2 t203 t205 t208 true a1_0 a1_1 l1_2 a1_3 a1_4 t196 t197 t198 t201 t202))) = some r:=by rw [if_pos rfl] at H;exact H
   clear H
   have H:=H1
   clear H1
   replace H:=Option.bind_eq_some_iff.mp H
   obtain ⟨t210,A220,H⟩:=H
   replace H : (if t210 = 0 then ((coppicerref_WordCheck.f k a0_1 l2).bind fun t211=>(coppicerkeep_TurnerBefore.j0 k l2 t203 t205 t208 (t211 != 0) a1_0 a1_1 l1_2 a1_3 a1_4 t196 t197 t198 t201 t202)) else (coppicerkeep_TurnerBefore.j0 k l2 t203 t205 t208 true a1_0 a1_1 l1_2 a1_3 a1_4 t196 t197 t198 t201 t202)) = some r:=H
   have A22:=Aside0.mk A220
   clear A220
   by_cases c23 : t210 = 0
   ·rw [if_pos c23] at H
    have c23b0 : (t210 == 0) = true:=beq_iff_eq.mpr c23
    have c23b1 : (t210 != 0) = false:=bne_eq_false_iff_eq.mpr c23
    clear c23
    (first|rw [c23b0]|(simp only [i64_w,i32_w];rw [c23b0])|skip)
    replace H:=Option.bind_eq_some_iff.mp H
    obtain ⟨t211,A240,H⟩:=H
    replace H : (coppicerkeep_TurnerBefore.j0 k l2 t203 t205 t208 (t211 != 0) a1_0 a1_1 l1_2 a1_3 a1_4 t196 t197 t198 t201 t202) = some r:=H
    have A24:=Aside0.mk A240
    clear A240
    have H':=Aside0.mk H
    clear H
    have hnb25:=NB194_195.out
    have hnc25:=NB195_194.out
    have hnb26:=NB194_204.out
    have hnc26:=NB204_194.out
    have hcz27_0 : w19.cell? ⟨gb194,0,none⟩ = some (.int .i64 a0_0):=(blk_cell BK194.out 0).trans rfl
    have hcz27_1 : w19.cell? ⟨gb194,1,none⟩ = some (.int .i64 a0_1):=(blk_cell BK194.out 1).trans rfl
    have hcz27_2 : w19.cell? ⟨gb194,2,none⟩ = some (.int .i64 a0_2):=(blk_cell BK194.out 2).trans rfl
    have hcz27_3 : w19.cell? ⟨gb194,3,none⟩ = some (.slice A0_3 l0_3.length c0_3):=(blk_cell BK194.out 3).trans rfl
    have hcz27_4 : w19.cell? ⟨gb194,4,none⟩ = some (.slice A0_4 l0_4.length c0_4):=(blk_cell BK194.out 4).trans rfl
    have hcz27_5 : w19.cell? ⟨gb194,5,none⟩ = some (.int .i64 a0_5):=(blk_cell BK194.out 5).trans rfl
    have hfz27_0:=blk_frozen BK194.out 0
    have hfz27_1:=blk_frozen BK194.out 1
    have hfz27_2:=blk_frozen BK194.out 2
    have hfz27_3:=blk_frozen BK194.out 3
    have hfz27_4:=blk_frozen BK194.out 4
    have hfz27_5:=blk_frozen BK194.out 5
    go_wp2_with (first|((with_reducible refine gate_callee (f:=24) rfl ?_);refine goesL_ (some 30) rfl rfl Try.func24 (by kernel_rfl) rfl #[.agg #[.int .i64 a0_0,.int .i64 a0_1,.int .i64 a0_2,.slice A0_3 l0_3.length c0_3,.slice A0_4 l0_4.length c0_4,.int .i64 a0_5]] rfl (by (try simp only [List.map_toArray,List.map_cons,List.map_nil]);first|done|rfl|(simp only [List.length_drop,List.length_take];rfl)) ?_;(with_reducible refine (coppicerkeep_turning.calls k a0_0 a0_1 a0_2 _ _ l0_3 _ _ l0_4 a0_5 true _ ?side1 ?side2 ?side3 ?side4 A20.out).mono ?_);(case side1=>repeat (first|exact (Kd.C_below HR0_3.out HB.out)|(with_reducible refine Kd.C_alloc ?_ _)|(with_reducible refine Kd.C_drewN ?_ _)|(with_reducible refine Kd.C_drew ?_)));(case side2=>exact HC0_3.out);(case side3=>repeat (first|exact (Kd.C_below HR0_4.out HB.out)|(with_reducible refine Kd.C_alloc ?_ _)|(with_reducible refine Kd.C_drewN ?_ _)|(with_reducible refine Kd.C_drew ?_)));(case side4=>exact HC0_4.out);rintro e w28 ⟨rfl,hb⟩;refine ⟨_,rfl,?_⟩;have n0_:=Aside0.mk (Kd.S_below (by (with_reducible repeat (first|apply Kd.S_alloc|apply Kd.S_drewN|apply Kd.S_drew));exact HO200.out) hb);have n1_:=Aside0.mk (Kd.R_below (by (with_reducible repeat (first|apply Kd.R_alloc|apply Kd.R_drewN|apply Kd.R_drew));exact HO207.out) hb);have n2_:=Aside0.mk (blk_below (g:=gb194) (o:=.cells #[.int .i64 a0_0,.int .i64 a0_1,.int .i64 a0_2,.slice A0_3 l0_3.length c0_3,.slice A0_4 l0_4.length c0_4,.int .i64 a0_5] 50 (0,0)) (by (with_reducible repeat (first|refine blk_drewN ?_ _|refine blk_drew ?_|refine blk_alloc ?_ _));exact BK194.out) hb);have n3_:=Aside0.mk (blk_below (g:=gb195) (o:=.cells #[.int .i64 a1_0,.int .i64 a1_1,.slice A1_2 l1_2.length c1_2,.int .i64 a1_3,.int .u32 a1_4] 37 (0,0)) (by (with_reducible repeat (first|refine blk_drewN ?_ _|refine blk_drew ?_|refine blk_alloc ?_ _));exact BK195.out) hb);have n4_:=Aside0.mk (blk_below (g:=gb204) (o:=.cells #[.int .i64 t196,.int .i64 t197,.slice Ao17 t198.length co17,.int .i64 t201,.int .u32 t202] 37 (0,0)) (by (with_reducible repeat (first|refine blk_drewN ?_ _|refine blk_drew ?_|refine blk_alloc ?_ _));exact BK204.out) hb);have n5_:=Aside0.mk (below_step (by repeat (first|(with_reducible first|exact HB.out|apply below_alloc|apply pw_below_drewN|apply below_drew1|refine below_set ?_ GE194.out|refine below_set ?_ GE195.out|refine below_set ?_ GE204.out)|exact HB.out)) hb);clear HO200;clear HO207;clear BK194;clear BK195;clear BK204;clear HB;have HO200:=n0_;have HO207:=n1_;have BK194:=n2_;have BK195:=n3_;have BK204:=n4_;have HB:=n5_;clear n0_ n1_ n2_ n3_ n4_ n5_;(try clear hb);(try clear hb2);(try clear hk);(try clear hi);have hnb29:=NB195_204.out;have hnc29:=NB204_195.out;have hcz30_0 : w28.cell? ⟨gb195,0,none⟩ = some (.int .i64 a1_0):=(blk_cell BK195.out 0).trans rfl;have hcz30_1 : w28.cell? ⟨gb195,1,none⟩ = some (.int .i64 a1_1):=(blk_cell BK195.out 1).trans rfl;have hcz30_2 : w28.cell? ⟨gb195,2,none⟩ = some (.slice A1_2 l1_2.length c1_2):=(blk_cell BK195.out 2).trans rfl;have hcz30_3 : w28.cell? ⟨gb195,3,none⟩ = some (.int .i64 a1_3):=(blk_cell BK195.out 3).trans rfl;have hcz30_4 : w28.cell? ⟨gb195,4,none⟩ = some (.int .u32 a1_4):=(blk_cell BK195.out 4).trans rfl;have hfz30_0:=blk_frozen BK195.out 0;have hfz30_1:=blk_frozen BK195.out 1;have hfz30_2:=blk_frozen BK195.out 2;have hfz30_3:=blk_frozen BK195.out 3;have hfz30_4:=blk_frozen BK195.out 4)|(go_at_call 31;(with_reducible refine (coppicerref_MachineCheck.calls k a1_0 a1_1 _ _ l1_2 a1_3 a1_4 t210 _ ?side1 ?side2 A22.out).mono ?_);(case side1=>repeat (first|exact (Kd.C_below HR1_2.out HB.out)|(with_reducible refine Kd.C_alloc ?_ _)|(with_reducible refine Kd.C_drewN ?_ _)|(with_reducible refine Kd.C_drew ?_)));(case side2=>exact HC1_2.out);rintro e w31 ⟨rfl,hb⟩;have n0_:=Aside0.mk (Kd.S_below (by (with_reducible repeat (first|apply Kd.S_alloc|apply Kd.S_drewN|apply Kd.S_drew));exact HO200.out) hb);have n1_:=Aside0.mk (Kd.R_below (by (with_reducible repeat (first|apply Kd.R_alloc|apply Kd.R_drewN|apply Kd.R_drew));exact HO207.out) hb);have n2_:=Aside0.mk (blk_below (g:=gb194) (o:=.cells #[.int .i64 a0_0,.int .i64 a0_1,.int .i64 a0_2,.slice A0_3 l0_3.length c0_3,.slice A0_4 l0_4.length c0_4,.int .i64 a0_5] 50 (0,0)) (by (with_reducible repeat (first|refine blk_drewN ?_ _|refine blk_drew ?_|refine blk_alloc ?_ _));exact BK194.out) hb);have n3_:=Aside0.mk (blk_below (g:=gb195) (o:=.cells #[.int .i64 a1_0,.int .i64 a1_1,.slice A1_2 l1_2.length c1_2,.int .i64 a1_3,.int .u32 a1_4] 37 (0,0)) (by (with_reducible repeat (first|refine blk_drewN ?_ _|refine blk_drew ?_|refine blk_alloc ?_ _));exact BK195.out) hb);have n4_:=Aside0.mk (blk_below (g:=gb204) (o:=.cells #[.int .i64 t196,.int .i64 t197,.slice Ao17 t198.length co17,.int .i64 t201,.int .u32 t202] 37 (0,0)) (by (with_reducible repeat (first|refine blk_drewN ?_ _|refine blk_drew ?_|refine blk_alloc ?_ _));exact BK204.out) hb);have n5_:=Aside0.mk (below_step (by repeat (first|(with_reducible first|exact HB.out|apply below_alloc|apply pw_below_drewN|apply below_drew1|refine below_set ?_ GE194.out|refine below_set ?_ GE195.out|refine below_set ?_ GE204.out)|exact HB.out)) hb);clear HO200;clear HO207;clear BK194;clear BK195;clear BK204;clear HB;have HO200:=n0_;have HO207:=n1_;have BK194:=n2_;have BK195:=n3_;have BK204:=n4_;have HB:=n5_;clear n0_ n1_ n2_ n3_ n4_ n5_;(try clear hb);(try clear hb2);(try clear hk);(try clear hi);have hcz32_0 : w31.cell? ⟨gb194,0,none⟩ = some (.int .i64 a0_0):=(blk_cell BK194.out 0).trans rfl;have hcz32_1 : w31.cell? ⟨gb194,1,none⟩ = some (.int .i64 a0_1):=(blk_cell BK194.out 1).trans rfl;have hcz32_2 : w31.cell? ⟨gb194,2,none⟩ = some (.int .i64 a0_2):=(blk_cell BK194.out 2).trans rfl;have hcz32_3 : w31.cell? ⟨gb194,3,none⟩ = some (.slice A0_3 l0_3.length c0_3):=(blk_cell BK194.out 3).trans rfl;have hcz32_4 : w31.cell? ⟨gb194,4,none⟩ = some (.slice A0_4 l0_4.length c0_4):=(blk_cell BK194.out 4).trans rfl;have hcz32_5 : w31.cell? ⟨gb194,5,none⟩ = some (.int .i64 a0_5):=(blk_cell BK194.out 5).trans rfl;have hfz32_0:=blk_frozen BK194.out 0;have hfz32_1:=blk_frozen BK194.out 1;have hfz32_2:=blk_frozen BK194.out 2;have hfz32_3:=blk_frozen BK194.out 3;have hfz32_4:=blk_frozen BK194.out 4;have hfz32_5:=blk_frozen BK194.out 5)|(go_at_call 20;(with_reducible refine (coppicerref_WordCheck.calls k a0_1 _ _ l2 t211 _ ?side1 ?side2 A24.out).mono ?_);(case side1=>repeat (first|exact (Kd.C_below HR2.out HB.out)|(with_reducible refine Kd.C_alloc ?_ _)|(with_reducible refine Kd.C_drewN ?_ _)|(with_reducible refine Kd.C_drew ?_)));(case side2=>exact HC2.out);rintro e w' ⟨rfl,⟨nd,rfl⟩⟩))
    go_meet
    case rel=>exact ⟨_,((t211 != 0)),(by first|rfl|(simp;done)|(simp [*];done)),H',⟨by first|omega|exact Nat.le_refl _⟩,⟨by (with_reducible repeat (first|apply Kd.R_alloc|apply Kd.R_drewN|apply Kd.R_drew));exact HO207.out⟩,⟨by (with_reducible repeat (first|apply Kd.S_alloc|apply Kd.S_drewN|apply Kd.S_drew));exact Kd.S_mono HO200.out (fun _ hk=>hk.2)⟩,⟨by (with_reducible repeat (first|refine blk_drewN ?_ _|refine blk_drew ?_|refine blk_alloc ?_ _));exact BK194.out⟩,⟨by (with_reducible repeat (first|refine blk_drewN ?_ _|refine blk_drew ?_|refine blk_alloc ?_ _));exact BK195.out⟩,⟨by (with_reducible repeat (first|refine blk_drewN ?_ _|refine blk_drew ?_|refine blk_alloc ?_ _));exact BK204.out⟩,⟨by repeat (first|(with_reducible first|exact HB.out|apply below_alloc|apply pw_below_drewN|apply below_drew1|refine below_set ?_ GE194.out|refine below_set ?_ GE195.out|refine below_set ?_ GE204.out)|exact HB.out)⟩⟩
   ·rw [if_neg c23] at H
    have c23b0 : (t210 == 0) = false:=beq_eq_false_iff_ne.mpr c23
    have c23b1 : (t210 != 0) = true:=bne_iff_ne.mpr c23
    (first|rw [c23b0]|(simp only [i64_w,i32_w];rw [c23b0])|skip)
    have H':=Aside0.mk H
    clear H
    have hnb33:=NB194_195.out
    have hnc33:=NB195_194.out
    have hnb34:=NB194_204.out
    have hnc34:=NB204_194.out
    have hcz35_0 : w19.cell? ⟨gb194,0,none⟩ = some (.int .i64 a0_0):=(blk_cell BK194.out 0).trans rfl
    have hcz35_1 : w19.cell? ⟨gb194,1,none⟩ = some (.int .i64 a0_1):=(blk_cell BK194.out 1).trans rfl
    have hcz35_2 : w19.cell? ⟨gb194,2,none⟩ = some (.int .i64 a0_2):=(blk_cell BK194.out 2).trans rfl
    have hcz35_3 : w19.cell? ⟨gb194,3,none⟩ = some (.slice A0_3 l0_3.length c0_3):=(blk_cell BK194.out 3).trans rfl
    have hcz35_4 : w19.cell? ⟨gb194,4,none⟩ = some (.slice A0_4 l0_4.length c0_4):=(blk_cell BK194.out 4).trans rfl
    have hcz35_5 : w19.cell? ⟨gb194,5,none⟩ = some (.int .i64 a0_5):=(blk_cell BK194.out 5).trans rfl
    have hfz35_0:=blk_frozen BK194.out 0
    have hfz35_1:=blk_frozen BK194.out 1
    have hfz35_2:=blk_frozen BK194.out 2
    have hfz35_3:=blk_frozen BK194.out 3
    have hfz35_4:=blk_frozen BK194.out 4
    have hfz35_5:=blk_frozen BK194.out 5
    go_wp2_with (first|((with_reducible refine gate_callee (f:=24) rfl ?_);refine goesL_ (some 30) rfl rfl Try.func24 (by kernel_rfl) rfl #[.agg #[.int .i64 a0_0,.int .i64 a0_1,.int .i64 a0_2,.slice A0_3 l0_3.length c0_3,.slice A0_4 l0_4.length c0_4,.int .i64 a0_5]] rfl (by (try simp only [List.map_toArray,List.map_cons,List.map_nil]);first|done|rfl|(simp only [List.length_drop,List.length_take];rfl)) ?_;(with_reducible refine (coppicerkeep_turning.calls k a0_0 a0_1 a0_2 _ _ l0_3 _ _ l0_4 a0_5 true _ ?side1 ?side2 ?side3 ?side4 A20.out).mono ?_);(case side1=>repeat (first|exact (Kd.C_below HR0_3.out HB.out)|(with_reducible refine Kd.C_alloc ?_ _)|(with_reducible refine Kd.C_drewN ?_ _)|(with_reducible refine Kd.C_drew ?_)));(case side2=>exact HC0_3.out);(case side3=>repeat (first|exact (Kd.C_below HR0_4.out HB.out)|(with_reducible refine Kd.C_alloc ?_ _)|(with_reducible refine Kd.C_drewN ?_ _)|(with_reducible refine Kd.C_drew ?_)));(case side4=>exact HC0_4.out);rintro e w36 ⟨rfl,hb⟩;refine ⟨_,rfl,?_⟩;have n0_:=Aside0.mk (Kd.S_below (by (with_reducible repeat (first|apply Kd.S_alloc|apply Kd.S_drewN|apply Kd.S_drew));exact HO200.out) hb);have n1_:=Aside0.mk (Kd.R_below (by (with_reducible repeat (first|apply Kd.R_alloc|apply Kd.R_drewN|apply Kd.R_drew));exact HO207.out) hb);have n2_:=Aside0.mk (blk_below (g:=gb194) (o:=.cells #[.int .i64 a0_0,.int .i64 a0_1,.int .i64 a0_2,.slice A0_3 l0_3.length c0_3,.slice A0_4 l0_4.length c0_4,.int .i64 a0_5] 50 (0,0)) (by (with_reducible repeat (first|refine blk_drewN ?_ _|refine blk_drew ?_|refine blk_alloc ?_ _));exact BK194.out) hb);have n3_:=Aside0.mk (blk_below (g:=gb195) (o:=.cells #[.int .i64 a1_0,.int .i64 a1_1,.slice A1_2 l1_2.length c1_2,.int .i64 a1_3,.int .u32 a1_4] 37 (0,0)) (by (with_reducible repeat (first|refine blk_drewN ?_ _|refine blk_drew ?_|refine blk_alloc ?_ _));exact BK195.out) hb);have n4_:=Aside0.mk (blk_below (g:=gb204) (o:=.cells #[.int .i64 t196,.int .i64 t197,.slice Ao17 t198.length co17,.int .i64 t201,.int .u32 t202] 37 (0,0)) (by (with_reducible repeat (first|refine blk_drewN ?_ _|refine blk_drew ?_|refine blk_alloc ?_ _));exact BK204.out) hb);have n5_:=Aside0.mk (below_step (by repeat (first|(with_reducible first|exact HB.out|apply below_alloc|apply pw_below_drewN|apply below_drew1|refine below_set ?_ GE194.out|refine below_set ?_ GE195.out|refine below_set ?_ GE204.out)|exact HB.out)) hb);clear HO200;clear HO207;clear BK194;clear BK195;clear BK204;clear HB;have HO200:=n0_;have HO207:=n1_;have BK194:=n2_;have BK195:=n3_;have BK204:=n4_;have HB:=n5_;clear n0_ n1_ n2_ n3_ n4_ n5_;(try clear hb);(try clear hb2);(try clear hk);(try clear hi);have hnb37:=NB195_204.out;have hnc37:=NB204_195.out;have hcz38_0 : w36.cell? ⟨gb195,0,none⟩ = some (.int .i64 a1_0):=(blk_cell BK195.out 0).trans rfl;have hcz38_1 : w36.cell? ⟨gb195,1,none⟩ = some (.int .i64 a1_1):=(blk_cell BK195.out 1).trans rfl;have hcz38_2 : w36.cell? ⟨gb195,2,none⟩ = some (.slice A1_2 l1_2.length c1_2):=(blk_cell BK195.out 2).trans rfl;have hcz38_3 : w36.cell? ⟨gb195,3,none⟩ = some (.int .i64 a1_3):=(blk_cell BK195.out 3).trans rfl;have hcz38_4 : w36.cell? ⟨gb195,4,none⟩ = some (.int .u32 a1_4):=(blk_cell BK195.out 4).trans rfl;have hfz38_0:=blk_frozen BK195.out 0;have hfz38_1:=blk_frozen BK195.out 1;have hfz38_2:=blk_frozen BK195.out 2;have hfz38_3:=blk_frozen BK195.out 3;have hfz38_4:=blk_frozen BK195.out 4)|(go_at_call 31;(with_reducible refine (coppicerref_MachineCheck.calls k a1_0 a1_1 _ _ l1_2 a1_3 a1_4 t210 _ ?side1 ?side2 A22.out).mono ?_);(case side1=>repeat (first|exact (Kd.C_below HR1_2.out HB.out)|(with_reducible refine Kd.C_alloc ?_ _)|(with_reducible refine Kd.C_drewN ?_ _)|(with_reducible refine Kd.C_drew ?_)));(case side2=>exact HC1_2.out);rintro e w39 ⟨rfl,hb⟩;have n0_:=Aside0.mk (Kd.S_below (by (with_reducible repeat (first|apply Kd.S_alloc|apply Kd.S_drewN|apply Kd.S_drew));exact HO200.out) hb);have n1_:=Aside0.mk (Kd.R_below (by (with_reducible repeat (first|apply Kd.R_alloc|apply Kd.R_drewN|apply Kd.R_drew));exact HO207.out) hb);have n2_:=Aside0.mk (blk_below (g:=gb194) (o:=.cells #[.int .i64 a0_0,.int .i64 a0_1,.int .i64 a0_2,.slice A0_3 l0_3.length c0_3,.slice A0_4 l0_4.length c0_4,.int .i64 a0_5] 50 (0,0)) (by (with_reducible repeat (first|refine blk_drewN ?_ _|refine blk_drew ?_|refine blk_alloc ?_ _));exact BK194.out) hb);have n3_:=Aside0.mk (blk_below (g:=gb195) (o:=.cells #[.int .i64 a1_0,.int .i64 a1_1,.slice A1_2 l1_2.length c1_2,.int .i64 a1_3,.int .u32 a1_4] 37 (0,0)) (by (with_reducible repeat (first|refine blk_drewN ?_ _|refine blk_drew ?_|refine blk_alloc ?_ _));exact BK195.out) hb);have n4_:=Aside0.mk (blk_below (g:=gb204) (o:=.cells #[.int .i64 t196,.int .i64 t197,.slice Ao17 t198.length co17,.int .i64 t201,.int .u32 t202] 37 (0,0)) (by (with_reducible repeat (first|refine blk_drewN ?_ _|refine blk_drew ?_|refine blk_alloc ?_ _));exact BK204.out) hb);have n5_:=Aside0.mk (below_step (by repeat (first|(with_reducible first|exact HB.out|apply below_alloc|apply pw_below_drewN|apply below_drew1|refine below_set ?_ GE194.out|refine below_set ?_ GE195.out|refine below_set ?_ GE204.out)|exact HB.out)) hb);clear HO200;clear HO207;clear BK194;clear BK195;clear BK204;clear HB;have HO200:=n0_;have HO207:=n1_;have BK194:=n2_;have BK195:=n3_;have BK204:=n4_;have HB:=n5_;clear n0_ n1_ n2_ n3_ n4_ n5_;(try clear hb);(try clear hb2);(try clear hk);(try clear hi)))
    go_meet
    case rel=>exact ⟨_,(true),(by first|rfl|(simp;done)|(simp [*];done)),H',⟨by first|omega|exact Nat.le_refl _⟩,⟨by (with_reducible repeat (first|apply Kd.R_alloc|apply Kd.R_drewN|apply Kd.R_drew));exact HO207.out⟩,⟨by (with_reducible repeat (first|apply Kd.S_alloc|apply Kd.S_drewN|apply Kd.S_drew));exact Kd.S_mono HO200.out (fun _ hk=>hk.2)⟩,⟨by (with_reducible repeat (first|refine blk_drewN ?_ _|refine blk_drew ?_|refine blk_alloc ?_ _));exact BK194.out⟩,⟨by (with_reducible repeat (first|refine blk_drewN ?_ _|refine blk_drew ?_|refine blk_alloc ?_ _));exact BK195.out⟩,⟨by (with_reducible repeat (first|refine blk_drewN ?_ _|refine blk_drew ?_|refine blk_alloc ?_ _));exact BK204.out⟩,⟨by repeat (first|(with_reducible first|exact HB.out|apply below_alloc|apply pw_below_drewN|apply below_drew1|refine below_set ?_ GE194.out|refine below_set ?_ GE195.out|refine below_set ?_ GE204.out)|exact HB.out)⟩⟩
  ·replace c21:=Bool.eq_false_iff.mpr c21
   subst c21
   have H1 : (coppicerkeep_TurnerBefore.j0 k l2 t203 t205 t208 true a1_0 a1_1 l1_2 a1_3 a1_4 t196 t197 t198 t201 t202) = some r:=by rw [if_neg (show ¬ (false = true) by decide)] at H;exact H
   clear H
   have H:=H1
   clear H1
   have H':=Aside0.mk H
   clear H
   have hnb40:=NB194_195.out
   have hnc40:=NB195_194.out
   have hnb41:=NB194_204.out
   have hnc41:=NB204_194.out
   have hcz42_0 : w19.cell? ⟨gb194,0,none⟩ = some (.int .i64 a0_0):=(blk_cell BK194.out 0).trans rfl
   have hcz42_1 : w19.cell? ⟨gb194,1,none⟩ = some (.int .i64 a0_1):=(blk_cell BK194.out 1).trans rfl
   have hcz42_2 : w19.cell? ⟨gb194,2,none⟩ = some (.int .i64 a0_2):=(blk_cell BK194.out 2).trans rfl
   have hcz42_3 : w19.cell? ⟨gb194,3,none⟩ = some (.slice A0_3 l0_3.length c0_3):=(blk_cell BK194.out 3).trans rfl
   have hcz42_4 : w19.cell? ⟨gb194,4,none⟩ = some (.slice A0_4 l0_4.length c0_4):=(blk_cell BK194.out 4).trans rfl
   have hcz42_5 : w19.cell? ⟨gb194,5,none⟩ = some (.int .i64 a0_5):=(blk_cell BK194.out 5).trans rfl
   have hfz42_0:=blk_frozen BK194.out 0
   have hfz42_1:=blk_frozen BK194.out 1
   have hfz42_2:=blk_frozen BK194.out 2
   have hfz42_3:=blk_frozen BK194.out 3
   have hfz42_4:=blk_frozen BK194.out 4
   have hfz42_5:=blk_frozen BK194.out 5
   go_wp2_with (first|((with_reducible refine gate_callee (f:=24) rfl ?_);refine goesL_ (some 30) rfl rfl Try.func24 (by kernel_rfl) rfl #[.agg #[.int .i64 a0_0,.int .i64 a0_1,.int .i64 a0_2,.slice A0_3 l0_3.length c0_3,.slice A0_4 l0_4.length c0_4,.int .i64 a0_5]] rfl (by (try simp only [List.map_toArray,List.map_cons,List.map_nil]);first|done|rfl|(simp only [List.length_drop,List.length_take];rfl)) ?_;(with_reducible refine (coppicerkeep_turning.calls k a0_0 a0_1 a0_2 _ _ l0_3 _ _ l0_4 a0_5 false _ ?side1 ?side2 ?side3 ?side4 A20.out).mono ?_);(case side1=>repeat (first|exact (Kd.C_below HR0_3.out HB.out)|(with_reducible refine Kd.C_alloc ?_ _)|(with_reducible refine Kd.C_drewN ?_ _)|(with_reducible refine Kd.C_drew ?_)));(case side2=>exact HC0_3.out);(case side3=>repeat (first|exact (Kd.C_below HR0_4.out HB.out)|(with_reducible refine Kd.C_alloc ?_ _)|(with_reducible refine Kd.C_drewN ?_ _)|(with_reducible refine Kd.C_drew ?_)));(case side4=>exact HC0_4.out);rintro e w43 ⟨rfl,hb⟩;refine ⟨_,rfl,?_⟩;have n0_:=Aside0.mk (Kd.S_below (by (with_reducible repeat (first|apply Kd.S_alloc|apply Kd.S_drewN|apply Kd.S_drew));exact HO200.out) hb);have n1_:=Aside0.mk (Kd.R_below (by (with_reducible repeat (first|apply Kd.R_alloc|apply Kd.R_drewN|apply Kd.R_drew));exact HO207.out) hb);have n2_:=Aside0.mk (blk_below (g:=gb194) (o:=.cells #[.int .i64 a0_0,.int .i64 a0_1,.int .i64 a0_2,.slice A0_3 l0_3.length c0_3,.slice A0_4 l0_4.length c0_4,.int .i64 a0_5] 50 (0,0)) (by (with_reducible repeat (first|refine blk_drewN ?_ _|refine blk_drew ?_|refine blk_alloc ?_ _));exact BK194.out) hb);have n3_:=Aside0.mk (blk_below (g:=gb195) (o:=.cells #[.int .i64 a1_0,.int .i64 a1_1,.slice A1_2 l1_2.length c1_2,.int .i64 a1_3,.int .u32 a1_4] 37 (0,0)) (by (with_reducible repeat (first|refine blk_drewN ?_ _|refine blk_drew ?_|refine blk_alloc ?_ _));exact BK195.out) hb);have n4_:=Aside0.mk (blk_below (g:=gb204) (o:=.cells #[.int .i64 t196,.int .i64 t197,.slice Ao17 t198.length co17,.int .i64 t201,.int .u32 t202] 37 (0,0)) (by (with_reducible repeat (first|refine blk_drewN ?_ _|refine blk_drew ?_|refine blk_alloc ?_ _));exact BK204.out) hb);have n5_:=Aside0.mk (below_step (by repeat (first|(with_reducible first|exact HB.out|apply below_alloc|apply pw_below_drewN|apply below_drew1|refine below_set ?_ GE194.out|refine below_set ?_ GE195.out|refine below_set ?_ GE204.out)|exact HB.out)) hb);clear HO200;clear HO207;clear BK194;clear BK195;clear BK204;clear HB;have HO200:=n0_;have HO207:=n1_;have BK194:=n2_;have BK195:=n3_;have BK204:=n4_;have HB:=n5_;clear n0_ n1_ n2_ n3_ n4_ n5_;(try clear hb);(try clear hb2);(try clear hk);(try clear hi)))
   go_meet
   case rel=>exact ⟨_,(true),(by first|rfl|(simp;done)|(simp [*];done)),H',⟨by first|omega|exact Nat.le_refl _⟩,⟨by (with_reducible repeat (first|apply Kd.R_alloc|apply Kd.R_drewN|apply Kd.R_drew));exact HO207.out⟩,⟨by (with_reducible repeat (first|apply Kd.S_alloc|apply Kd.S_drewN|apply Kd.S_drew));exact Kd.S_mono HO200.out (fun _ hk=>hk.2)⟩,⟨by (with_reducible repeat (first|refine blk_drewN ?_ _|refine blk_drew ?_|refine blk_alloc ?_ _));exact BK194.out⟩,⟨by (with_reducible repeat (first|refine blk_drewN ?_ _|refine blk_drew ?_|refine blk_alloc ?_ _));exact BK195.out⟩,⟨by (with_reducible repeat (first|refine blk_drewN ?_ _|refine blk_drew ?_|refine blk_alloc ?_ _));exact BK204.out⟩,⟨by repeat (first|(with_reducible first|exact HB.out|apply below_alloc|apply pw_below_drewN|apply below_drew1|refine below_set ?_ GE194.out|refine below_set ?_ GE195.out|refine below_set ?_ GE204.out)|exact HB.out)⟩⟩
 case rest =>
  clear HC6
  try clear c1
  try clear c2
  try clear p2
  try clear c3
  try clear c4
  try clear c9
  try clear c10
  try clear c14
  try clear c15
  try clear c21
  try clear c23
  try clear c23b0
  try clear c23b1
  try clear c24
  try clear c25
  try clear c26
  try clear c29
  try clear c30
  try clear c33
  try clear c34
  try clear c37
  try clear c40
  try clear c41
  try clear hcz10_0
  try clear hcz10_1
  try clear hcz10_2
  try clear hcz10_3
  try clear hcz10_4
  try clear hcz10_5
  try clear hcz11_0
  try clear hcz11_1
  try clear hcz11_2
  try clear hcz11_3
  try clear hcz11_4
  try clear hcz16_0
  try clear hcz16_1
  try clear hcz16_2
  try clear hcz16_3
  try clear hcz16_4
  try clear hcz18_0
  try clear hcz18_1
  try clear hcz18_2
  try clear hcz18_3
  try clear hcz18_4
  try clear hcz18_5
  try clear hcz27_0
  try clear hcz27_1
  try clear hcz27_2
  try clear hcz27_3
  try clear hcz27_4
  try clear hcz27_5
  try clear hcz30_0
  try clear hcz30_1
  try clear hcz30_2
  try clear hcz30_3
  try clear hcz30_4
  try clear hcz32_0
  try clear hcz32_1
  try clear hcz32_2
  try clear hcz32_3
  try clear hcz32_4
  try clear hcz32_5
  try clear hcz35_0
  try clear hcz35_1
  try clear hcz35_2
  try clear hcz35_3
  try clear hcz35_4
  try clear hcz35_5
  try clear hcz38_0
  try clear hcz38_1
  try clear hcz38_2
  try clear hcz38_3
  try clear hcz38_4
  try clear hcz42_0
  try clear hcz42_1
  try clear hcz42_2
  try clear hcz42_3
  try clear hcz42_4
  try clear hcz42_5
  try clear hfz10_0
  try clear hfz10_1
  try clear hfz10_2
  try clear hfz10_3
  try clear hfz10_4
  try clear hfz10_5
  try clear hfz11_0
  try clear hfz11_1
  try clear hfz11_2
  try clear hfz11_3
  try clear hfz11_4
  try clear hfz16_0
  try clear hfz16_1
  try clear hfz16_2
  try clear hfz16_3
  try clear hfz16_4
  try clear hfz18_0
  try clear hfz18_1
  try clear hfz18_2
  try clear hfz18_3
  try clear hfz18_4
  try clear hfz18_5
  try clear hfz27_0
  try clear hfz27_1
  try clear hfz27_2
  try clear hfz27_3
  try clear hfz27_4
  try clear hfz27_5
  try clear hfz30_0
  try clear hfz30_1
  try clear hfz30_2
  try clear hfz30_3
  try clear hfz30_4
  try clear hfz32_0
  try clear hfz32_1
  try clear hfz32_2
  try clear hfz32_3
  try clear hfz32_4
  try clear hfz32_5
  try clear hfz35_0
  try clear hfz35_1
  try clear hfz35_2
  try clear hfz35_3
  try clear hfz35_4
  try clear hfz35_5
  try clear hfz38_0
  try clear hfz38_1
  try clear hfz38_2
  try clear hfz38_3
  try clear hfz38_4
  try clear hfz42_0
  try clear hfz42_1
  try clear hfz42_2
  try clear hfz42_3
  try clear hfz42_4
  try clear hfz42_5
  obtain ⟨kq,x43_5,rfl,HA,HJ5,HO_9,HO_205002,BK194,BK195,BK204,HB⟩:=hcut
  cases kq with
  | zero=>exact absurd HA.out (by simp [coppicerkeep_TurnerBefore.j0])
  | succ kj5 =>
   have H:=HA.out
   clear HA
   simp only [coppicerkeep_TurnerBefore.j0] at H
   by_cases c44 : x43_5 = true
   ·subst c44
    have H1 : (if t203 = 0 then (some (t208 != 0)) else (some true)) = some r:=by rw [if_pos rfl] at H;exact H
    clear H
    have H:=H1
    clear H1
    by_cases c45 : t203 = 0
    ·rw [if_pos c45] at H
     have c45b0 : (t203 == 0) = true:=beq_iff_eq.mpr c45
     have c45b1 : (t203 != 0) = false:=bne_eq_false_iff_eq.mpr c45
     clear c45
     obtain rfl:=Option.some.inj H
     go_wp2
     go_ret
     exact ⟨by first|rfl|(simp [errW_none,errW_some] <;> rfl)|(simp [*,errW_none,errW_some] <;> rfl),by repeat (first|(with_reducible first|exact HB.out|apply below_alloc|apply pw_below_drewN|apply below_drew1|refine below_set ?_ GE194.out|refine below_set ?_ GE195.out|refine below_set ?_ GE204.out)|exact HB.out)⟩
    ·rw [if_neg c45] at H
     have c45b0 : (t203 == 0) = false:=beq_eq_false_iff_ne.mpr c45
     have c45b1 : (t203 != 0) = true:=bne_iff_ne.mpr c45
     obtain rfl:=Option.some.inj H
     go_wp2
     go_ret
     exact ⟨by first|rfl|(simp [errW_none,errW_some] <;> rfl)|(simp [*,errW_none,errW_some] <;> rfl),by repeat (first|(with_reducible first|exact HB.out|apply below_alloc|apply pw_below_drewN|apply below_drew1|refine below_set ?_ GE194.out|refine below_set ?_ GE195.out|refine below_set ?_ GE204.out)|exact HB.out)⟩
   ·replace c44:=Bool.eq_false_iff.mpr c44
    subst c44
    have H1 : (if t208 = 0 then (if t203 = 0 then ((machine_Run.f kj5 t196 t197 t198 t201 t202 l2).bind fun bt212=>((machine_Run.f kj5 a1_0 a1_1 l1_2 a1_3 a1_4 t205).bind fun bt215=>(if bt212.2.2 = 0 then (if (t205.length : Int) > 12 then (if bt215.2.2 = 0 then (some (bt212.2.1 == bt215.2.1)) else (some true)) else (if bt215.2.2 = 0 then (some (bt212.2.1 == bt215.2.1)) else (some false))) else (some false)))) else (some (t196 == 0))) else (some false)) = some r:=by rw [if_neg (show ¬ (false = true) by decide)] at H;exact H
    clear H
    have H:=H1
    clear H1
    by_cases c46 : t208 = 0
    ·rw [if_pos c46] at H
     have c46b0 : (t208 == 0) = true:=beq_iff_eq.mpr c46
     have c46b1 : (t208 != 0) = false:=bne_eq_false_iff_eq.mpr c46
     clear c46
     by_cases c47 : t203 = 0
     ·rw [if_pos c47] at H
      have c47b0 : (t203 == 0) = true:=beq_iff_eq.mpr c47
      have c47b1 : (t203 != 0) = false:=bne_eq_false_iff_eq.mpr c47
      clear c47
      replace H:=Option.bind_eq_some_iff.mp H
      obtain ⟨⟨t212,t213,t214⟩,A480,H⟩:=H
      replace H : ((machine_Run.f kj5 a1_0 a1_1 l1_2 a1_3 a1_4 t205).bind fun bt215=>(if t214 = 0 then (if (t205.length : Int) > 12 then (if bt215.2.2 = 0 then (some (t213 == bt215.2.1)) else (some true)) else (if bt215.2.2 = 0 then (some (t213 == bt215.2.1)) else (some false))) else (some false))) = some r:=H
      have A48:=Aside0.mk A480
      clear A480
      replace H:=Option.bind_eq_some_iff.mp H
      obtain ⟨⟨t215,t216,t217⟩,A490,H⟩:=H
      replace H : (if t214 = 0 then (if (t205.length : Int) > 12 then (if t217 = 0 then (some (t213 == t216)) else (some true)) else (if t217 = 0 then (some (t213 == t216)) else (some false))) else (some false)) = some r:=H
      have A49:=Aside0.mk A490
      clear A490
      by_cases c50 : t214 = 0
      ·rw [if_pos c50] at H
       have c50b0 : (t214 == 0) = true:=beq_iff_eq.mpr c50
       have c50b1 : (t214 != 0) = false:=bne_eq_false_iff_eq.mpr c50
       clear c50
       by_cases c51 : (t205.length : Int) > 12
       ·rw [if_pos c51] at H
        have c51b0 : decide (12 < (t205.length : Int)) = true:=decide_eq_true c51
        have c51b1 : decide (12 < t205.length) = true:=decide_eq_true (by omega)
        clear c51
        by_cases c52 : t217 = 0
        ·rw [if_pos c52] at H
         have c52b0 : (t217 == 0) = true:=beq_iff_eq.mpr c52
         have c52b1 : (t217 != 0) = false:=bne_eq_false_iff_eq.mpr c52
         clear c52
         obtain rfl:=Option.some.inj H
         have hnb53:=NB204_194.out
         have hnc53:=NB194_204.out
         have hnb54:=NB204_195.out
         have hnc54:=NB195_204.out
         have hcz55_0 : wc.cell? ⟨gb204,0,none⟩ = some (.int .i64 t196):=(blk_cell BK204.out 0).trans rfl
         have hcz55_1 : wc.cell? ⟨gb204,1,none⟩ = some (.int .i64 t197):=(blk_cell BK204.out 1).trans rfl
         have hcz55_2 : wc.cell? ⟨gb204,2,none⟩ = some (.slice Ao17 t198.length co17):=(blk_cell BK204.out 2).trans rfl
         have hcz55_3 : wc.cell? ⟨gb204,3,none⟩ = some (.int .i64 t201):=(blk_cell BK204.out 3).trans rfl
         have hcz55_4 : wc.cell? ⟨gb204,4,none⟩ = some (.int .u32 t202):=(blk_cell BK204.out 4).trans rfl
         have hfz55_0:=blk_frozen BK204.out 0
         have hfz55_1:=blk_frozen BK204.out 1
         have hfz55_2:=blk_frozen BK204.out 2
         have hfz55_3:=blk_frozen BK204.out 3
         have hfz55_4:=blk_frozen BK204.out 4
         go_wp2_with (first|((with_reducible refine gate_callee (f:=18) rfl ?_);refine goesL_ (some 60) rfl rfl Try.func18 (by kernel_rfl) rfl #[.agg #[.int .i64 t196,.int .i64 t197,.slice Ao17 t198.length co17,.int .i64 t201,.int .u32 t202],.slice A2 l2.length c2] rfl (by (try simp only [List.map_toArray,List.map_cons,List.map_nil]);first|done|rfl|(simp only [List.length_drop,List.length_take];rfl)) ?_;(with_reducible refine (machine_Run.calls kj5 t196 t197 _ _ t198 t201 t202 _ _ l2 t212 t213 t214 _ ?side1 ?side2 ?side3 ?side4 A48.out).mono ?_);(case side1=>repeat (first|exact (Kd.S_reads' HO_205002.out).2.2|(with_reducible refine Kd.C_alloc ?_ _)|(with_reducible refine Kd.C_drewN ?_ _)|(with_reducible refine Kd.C_drew ?_)));(case side2=>exact (Kd.S_reads' HO_205002.out).2.1);(case side3=>repeat (first|exact (Kd.C_below HR2.out HB.out)|(with_reducible refine Kd.C_alloc ?_ _)|(with_reducible refine Kd.C_drewN ?_ _)|(with_reducible refine Kd.C_drew ?_)));(case side4=>exact HC2.out);rintro e w56 ⟨rfl,hb⟩;refine ⟨_,rfl,?_⟩;have n0_:=Aside0.mk (Kd.R_below (by (with_reducible repeat (first|apply Kd.R_alloc|apply Kd.R_drewN|apply Kd.R_drew));exact HO_9.out) hb);have n1_:=Aside0.mk (Kd.S_below (by (with_reducible repeat (first|apply Kd.S_alloc|apply Kd.S_drewN|apply Kd.S_drew));exact HO_205002.out) hb);have n2_:=Aside0.mk (blk_below (g:=gb194) (o:=.cells #[.int .i64 a0_0,.int .i64 a0_1,.int .i64 a0_2,.slice A0_3 l0_3.length c0_3,.slice A0_4 l0_4.length c0_4,.int .i64 a0_5] 50 (0,0)) (by (with_reducible repeat (first|refine blk_drewN ?_ _|refine blk_drew ?_|refine blk_alloc ?_ _));exact BK194.out) hb);have n3_:=Aside0.mk (blk_below (g:=gb195) (o:=.cells #[.int .i64 a1_0,.int .i64 a1_1,.slice A1_2 l1_2.length c1_2,.int .i64 a1_3,.int .u32 a1_4] 37 (0,0)) (by (with_reducible repeat (first|refine blk_drewN ?_ _|refine blk_drew ?_|refine blk_alloc ?_ _));exact BK195.out) hb);have n4_:=Aside0.mk (blk_below (g:=gb204) (o:=.cells #[.int .i64 t196,.int .i64 t197,.slice Ao17 t198.length co17,.int .i64 t201,.int .u32 t202] 37 (0,0)) (by (with_reducible repeat (first|refine blk_drewN ?_ _|refine blk_drew ?_|refine blk_alloc ?_ _));exact BK204.out) hb);have n5_:=Aside0.mk (below_step (by repeat (first|(with_reducible first|exact HB.out|apply below_alloc|apply pw_below_drewN|apply below_drew1|refine below_set ?_ GE194.out|refine below_set ?_ GE195.out|refine below_set ?_ GE204.out)|exact HB.out)) hb);clear HO_9;clear HO_205002;clear BK194;clear BK195;clear BK204;clear HB;have HO_9:=n0_;have HO_205002:=n1_;have BK194:=n2_;have BK195:=n3_;have BK204:=n4_;have HB:=n5_;clear n0_ n1_ n2_ n3_ n4_ n5_;(try clear hb);(try clear hb2);(try clear hk);(try clear hi);have hnb57:=NB195_194.out;have hnc57:=NB194_195.out;have hcz58_0 : w56.cell? ⟨gb195,0,none⟩ = some (.int .i64 a1_0):=(blk_cell BK195.out 0).trans rfl;have hcz58_1 : w56.cell? ⟨gb195,1,none⟩ = some (.int .i64 a1_1):=(blk_cell BK195.out 1).trans rfl;have hcz58_2 : w56.cell? ⟨gb195,2,none⟩ = some (.slice A1_2 l1_2.length c1_2):=(blk_cell BK195.out 2).trans rfl;have hcz58_3 : w56.cell? ⟨gb195,3,none⟩ = some (.int .i64 a1_3):=(blk_cell BK195.out 3).trans rfl;have hcz58_4 : w56.cell? ⟨gb195,4,none⟩ = some (.int .u32 a1_4):=(blk_cell BK195.out 4).trans rfl;have hfz58_0:=blk_frozen BK195.out 0;have hfz58_1:=blk_frozen BK195.out 1;have hfz58_2:=blk_frozen BK195.out 2;have hfz58_3:=blk_frozen BK195.out 3;have hfz58_4:=blk_frozen BK195.out 4;obtain ⟨Ao59,co59,eo59⟩:=Kd.R_slice HO_9.out;subst eo59)|((with_reducible refine gate_callee (f:=18) rfl ?_);refine goesL_ (some 67) rfl rfl Try.func18 (by kernel_rfl) rfl #[.agg #[.int .i64 a1_0,.int .i64 a1_1,.slice A1_2 l1_2.length c1_2,.int .i64 a1_3,.int .u32 a1_4],.slice Ao59 t205.length co59] rfl (by (try simp only [List.map_toArray,List.map_cons,List.map_nil]);first|done|rfl|(simp only [List.length_drop,List.length_take];rfl)) ?_;(with_reducible refine (machine_Run.calls kj5 a1_0 a1_1 _ _ l1_2 a1_3 a1_4 _ _ t205 t215 t216 t217 _ ?side1 ?side2 ?side3 ?side4 A49.out).mono ?_);(case side1=>repeat (first|exact (Kd.C_below HR1_2.out HB.out)|(with_reducible refine Kd.C_alloc ?_ _)|(with_reducible refine Kd.C_drewN ?_ _)|(with_reducible refine Kd.C_drew ?_)));(case side2=>exact HC1_2.out);(case side3=>repeat (first|exact (Kd.R_reads' HO_9.out).2.2|(with_reducible refine Kd.C_alloc ?_ _)|(with_reducible refine Kd.C_drewN ?_ _)|(with_reducible refine Kd.C_drew ?_)));(case side4=>exact (Kd.R_reads' HO_9.out).2.1);rintro e w60 ⟨rfl,hb⟩;refine ⟨_,rfl,?_⟩;have n0_:=Aside0.mk (Kd.R_below (by (with_reducible repeat (first|apply Kd.R_alloc|apply Kd.R_drewN|apply Kd.R_drew));exact HO_9.out) hb);have n1_:=Aside0.mk (Kd.S_below (by (with_reducible repeat (first|apply Kd.S_alloc|apply Kd.S_drewN|apply Kd.S_drew));exact HO_205002.out) hb);have n2_:=Aside0.mk (blk_below (g:=gb194) (o:=.cells #[.int .i64 a0_0,.int .i64 a0_1,.int .i64 a0_2,.slice A0_3 l0_3.length c0_3,.slice A0_4 l0_4.length c0_4,.int .i64 a0_5] 50 (0,0)) (by (with_reducible repeat (first|refine blk_drewN ?_ _|refine blk_drew ?_|refine blk_alloc ?_ _));exact BK194.out) hb);have n3_:=Aside0.mk (blk_below (g:=gb195) (o:=.cells #[.int .i64 a1_0,.int .i64 a1_1,.slice A1_2 l1_2.length c1_2,.int .i64 a1_3,.int .u32 a1_4] 37 (0,0)) (by (with_reducible repeat (first|refine blk_drewN ?_ _|refine blk_drew ?_|refine blk_alloc ?_ _));exact BK195.out) hb);have n4_:=Aside0.mk (blk_below (g:=gb204) (o:=.cells #[.int .i64 t196,.int .i64 t197,.slice Ao17 t198.length co17,.int .i64 t201,.int .u32 t202] 37 (0,0)) (by (with_reducible repeat (first|refine blk_drewN ?_ _|refine blk_drew ?_|refine blk_alloc ?_ _));exact BK204.out) hb);have n5_:=Aside0.mk (below_step (by repeat (first|(with_reducible first|exact HB.out|apply below_alloc|apply pw_below_drewN|apply below_drew1|refine below_set ?_ GE194.out|refine below_set ?_ GE195.out|refine below_set ?_ GE204.out)|exact HB.out)) hb);clear HO_9;clear HO_205002;clear BK194;clear BK195;clear BK204;clear HB;have HO_9:=n0_;have HO_205002:=n1_;have BK194:=n2_;have BK195:=n3_;have BK204:=n4_;have HB:=n5_;clear n0_ n1_ n2_ n3_ n4_ n5_;(try clear hb);(try clear hb2);(try clear hk);(try clear hi)))
         go_ret
         exact ⟨by first|rfl|(simp [errW_none,errW_some] <;> rfl)|(simp [*,errW_none,errW_some] <;> rfl),by repeat (first|(with_reducible first|exact HB.out|apply below_alloc|apply pw_below_drewN|apply below_drew1|refine below_set ?_ GE194.out|refine below_set ?_ GE195.out|refine below_set ?_ GE204.out)|exact HB.out)⟩
        ·rw [if_neg c52] at H
         have c52b0 : (t217 == 0) = false:=beq_eq_false_iff_ne.mpr c52
         have c52b1 : (t217 != 0) = true:=bne_iff_ne.mpr c52
         obtain rfl:=Option.some.inj H
         have hnb61:=NB204_194.out
         have hnc61:=NB194_204.out
         have hnb62:=NB204_195.out
         have hnc62:=NB195_204.out
         have hcz63_0 : wc.cell? ⟨gb204,0,none⟩ = some (.int .i64 t196):=(blk_cell BK204.out 0).trans rfl
         have hcz63_1 : wc.cell? ⟨gb204,1,none⟩ = some (.int .i64 t197):=(blk_cell BK204.out 1).trans rfl
         have hcz63_2 : wc.cell? ⟨gb204,2,none⟩ = some (.slice Ao17 t198.length co17):=(blk_cell BK204.out 2).trans rfl
         have hcz63_3 : wc.cell? ⟨gb204,3,none⟩ = some (.int .i64 t201):=(blk_cell BK204.out 3).trans rfl
         have hcz63_4 : wc.cell? ⟨gb204,4,none⟩ = some (.int .u32 t202):=(blk_cell BK204.out 4).trans rfl
         have hfz63_0:=blk_frozen BK204.out 0
         have hfz63_1:=blk_frozen BK204.out 1
         have hfz63_2:=blk_frozen BK204.out 2
         have hfz63_3:=blk_frozen BK204.out 3
         have hfz63_4:=blk_frozen BK204.out 4
         go_wp2_with (first|((with_reducible refine gate_callee (f:=18) rfl ?_);refine goesL_ (some 60) rfl rfl Try.func18 (by kernel_rfl) rfl #[.agg #[.int .i64 t196,.int .i64 t197,.slice Ao17 t198.length co17,.int .i64 t201,.int .u32 t202],.slice A2 l2.length c2] rfl (by (try simp only [List.map_toArray,List.map_cons,List.map_nil]);first|done|rfl|(simp only [List.length_drop,List.length_take];rfl)) ?_;(with_reducible refine (machine_Run.calls kj5 t196 t197 _ _ t198 t201 t202 _ _ l2 t212 t213 t214 _ ?side1 ?side2 ?side3 ?side4 A48.out).mono ?_);(case side1=>repeat (first|exact (Kd.S_reads' HO_205002.out).2.2|(with_reducible refine Kd.C_alloc ?_ _)|(with_reducible refine Kd.C_drewN ?_ _)|(with_reducible refine Kd.C_drew ?_)));(case side2=>exact (Kd.S_reads' HO_205002.out).2.1);(case side3=>repeat (first|exact (Kd.C_below HR2.out HB.out)|(with_reducible refine Kd.C_alloc ?_ _)|(with_reducible refine Kd.C_drewN ?_ _)|(with_reducible refine Kd.C_drew ?_)));(case side4=>exact HC2.out);rintro e w64 ⟨rfl,hb⟩;refine ⟨_,rfl,?_⟩;have n0_:=Aside0.mk (Kd.R_below (by (with_reducible repeat (first|apply Kd.R_alloc|apply Kd.R_drewN|apply Kd.R_drew));exact HO_9.out) hb);have n1_:=Aside0.mk (Kd.S_below (by (with_reducible repeat (first|apply Kd.S_alloc|apply Kd.S_drewN|apply Kd.S_drew));exact HO_205002.out) hb);have n2_:=Aside0.mk (blk_below (g:=gb194) (o:=.cells #[.int .i64 a0_0,.int .i64 a0_1,.int .i64 a0_2,.slice A0_3 l0_3.length c0_3,.slice A0_4 l0_4.length c0_4,.int .i64 a0_5] 50 (0,0)) (by (with_reducible repeat (first|refine blk_drewN ?_ _|refine blk_drew ?_|refine blk_alloc ?_ _));exact BK194.out) hb);have n3_:=Aside0.mk (blk_below (g:=gb195) (o:=.cells #[.int .i64 a1_0,.int .i64 a1_1,.slice A1_2 l1_2.length c1_2,.int .i64 a1_3,.int .u32 a1_4] 37 (0,0)) (by (with_reducible repeat (first|refine blk_drewN ?_ _|refine blk_drew ?_|refine blk_alloc ?_ _));exact BK195.out) hb);have n4_:=Aside0.mk (blk_below (g:=gb204) (o:=.cells #[.int .i64 t196,.int .i64 t197,.slice Ao17 t198.length co17,.int .i64 t201,.int .u32 t202] 37 (0,0)) (by (with_reducible repeat (first|refine blk_drewN ?_ _|refine blk_drew ?_|refine blk_alloc ?_ _));exact BK204.out) hb);have n5_:=Aside0.mk (below_step (by repeat (first|(with_reducible first|exact HB.out|apply below_alloc|apply pw_below_drewN|apply below_drew1|refine below_set ?_ GE194.out|refine below_set ?_ GE195.out|refine below_set ?_ GE204.out)|exact HB.out)) hb);clear HO_9;clear HO_205002;clear BK194;clear BK195;clear BK204;clear HB;have HO_9:=n0_;have HO_205002:=n1_;have BK194:=n2_;have BK195:=n3_;have BK204:=n4_;have HB:=n5_;clear n0_ n1_ n2_ n3_ n4_ n5_;(try clear hb);(try clear hb2);(try clear hk);(try clear hi);have hnb65:=NB195_194.out;have hnc65:=NB194_195.out;have hcz66_0 : w64.cell? ⟨gb195,0,none⟩ = some (.int .i64 a1_0):=(blk_cell BK195.out 0).trans rfl;have hcz66_1 : w64.cell? ⟨gb195,1,none⟩ = some (.int .i64 a1_1):=(blk_cell BK195.out 1).trans rfl;have hcz66_2 : w64.cell? ⟨gb195,2,none⟩ = some (.slice A1_2 l1_2.length c1_2):=(blk_cell BK195.out 2).trans rfl;have hcz66_3 : w64.cell? ⟨gb195,3,none⟩ = some (.int .i64 a1_3):=(blk_cell BK195.out 3).trans rfl;have hcz66_4 : w64.cell? ⟨gb195,4,none⟩ = some (.int .u32 a1_4):=(blk_cell BK195.out 4).trans rfl;have hfz66_0:=blk_frozen BK195.out 0;have hfz66_1:=blk_frozen BK195.out 1;have hfz66_2:=blk_frozen BK195.out 2;have hfz66_3:=blk_frozen BK195.out 3;have hfz66_4:=blk_frozen BK195.out 4;obtain ⟨Ao67,co67,eo67⟩:=Kd.R_slice HO_9.out;subst eo67)|((with_reducible refine gate_callee (f:=18) rfl ?_);refine goesL_ (some 67) rfl rfl Try.func18 (by kernel_rfl) rfl #[.agg #[.int .i64 a1_0,.int .i64 a1_1,.slice A1_2 l1_2.length c1_2,.int .i64 a1_3,.int .u32 a1_4],.slice Ao67 t205.length co67] rfl (by (try simp only [List.map_toArray,List.map_cons,List.map_nil]);first|done|rfl|(simp only [List.length_drop,List.length_take];rfl)) ?_;(with_reducible refine (machine_Run.calls kj5 a1_0 a1_1 _ _ l1_2 a1_3 a1_4 _ _ t205 t215 t216 t217 _ ?side1 ?side2 ?side3 ?side4 A49.out).mono ?_);(case side1=>repeat (first|exact (Kd.C_below HR1_2.out HB.out)|(with_reducible refine Kd.C_alloc ?_ _)|(with_reducible refine Kd.C_drewN ?_ _)|(with_reducible refine Kd.C_drew ?_)));(case side2=>exact HC1_2.out);(case side3=>repeat (first|exact (Kd.R_reads' HO_9.out).2.2|(with_reducible refine Kd.C_alloc ?_ _)|(with_reducible refine Kd.C_drewN ?_ _)|(with_reducible refine Kd.C_drew ?_)));(case side4=>exact (Kd.R_reads' HO_9.out).2.1);rintro e w68 ⟨rfl,hb⟩;refine ⟨_,rfl,?_⟩;have n0_:=Aside0.mk (Kd.R_below (by (with_reducible repeat (first|apply Kd.R_alloc|apply Kd.R_drewN|apply Kd.R_drew));exact HO_9.out) hb);have n1_:=Aside0.mk (Kd.S_below (by (with_reducible repeat (first|apply Kd.S_alloc|apply Kd.S_drewN|apply Kd.S_drew));exact HO_205002.out) hb);have n2_:=Aside0.mk (blk_below (g:=gb194) (o:=.cells #[.int .i64 a0_0,.int .i64 a0_1,.int .i64 a0_2,.slice A0_3 l0_3.length c0_3,.slice A0_4 l0_4.length c0_4,.int .i64 a0_5] 50 (0,0)) (by (with_reducible repeat (first|refine blk_drewN ?_ _|refine blk_drew ?_|refine blk_alloc ?_ _));exact BK194.out) hb);have n3_:=Aside0.mk (blk_below (g:=gb195) (o:=.cells #[.int .i64 a1_0,.int .i64 a1_1,.slice A1_2 l1_2.length c1_2,.int .i64 a1_3,.int .u32 a1_4] 37 (0,0)) (by (with_reducible repeat (first|refine blk_drewN ?_ _|refine blk_drew ?_|refine blk_alloc ?_ _));exact BK195.out) hb);have n4_:=Aside0.mk (blk_below (g:=gb204) (o:=.cells #[.int .i64 t196,.int .i64 t197,.slice Ao17 t198.length co17,.int .i64 t201,.int .u32 t202] 37 (0,0)) (by (with_reducible repeat (first|refine blk_drewN ?_ _|refine blk_drew ?_|refine blk_alloc ?_ _));exact BK204.out) hb);have n5_:=Aside0.mk (below_step (by repeat (first|(with_reducible first|exact HB.out|apply below_alloc|apply pw_below_drewN|apply below_drew1|refine below_set ?_ GE194.out|refine below_set ?_ GE195.out|refine below_set ?_ GE204.out)|exact HB.out)) hb);clear HO_9;clear HO_205002;clear BK194;clear BK195;clear BK204;clear HB;have HO_9:=n0_;have HO_205002:=n1_;have BK194:=n2_;have BK195:=n3_;have BK204:=n4_;have HB:=n5_;clear n0_ n1_ n2_ n3_ n4_ n5_;(try clear hb);(try clear hb2);(try clear hk);(try clear hi)))
         go_ret
         exact ⟨by first|rfl|(simp [errW_none,errW_some] <;> rfl)|(simp [*,errW_none,errW_some] <;> rfl),by repeat (first|(with_reducible first|exact HB.out|apply below_alloc|apply pw_below_drewN|apply below_drew1|refine below_set ?_ GE194.out|refine below_set ?_ GE195.out|refine below_set ?_ GE204.out)|exact HB.out)⟩
       ·rw [if_neg c51] at H
        have c51b0 : decide (12 < (t205.length : Int)) = false:=decide_eq_false c51
        have c51b1 : decide (12 < t205.length) = false:=decide_eq_false (by omega)
        clear c51
        by_cases c69 : t217 = 0
        ·rw [if_pos c69] at H
         have c69b0 : (t217 == 0) = true:=beq_iff_eq.mpr c69
         have c69b1 : (t217 != 0) = false:=bne_eq_false_iff_eq.mpr c69
         clear c69
         obtain rfl:=Option.some.inj H
         have hnb70:=NB204_194.out
         have hnc70:=NB194_204.out
         have hnb71:=NB204_195.out
         have hnc71:=NB195_204.out
         have hcz72_0 : wc.cell? ⟨gb204,0,none⟩ = some (.int .i64 t196):=(blk_cell BK204.out 0).trans rfl
         have hcz72_1 : wc.cell? ⟨gb204,1,none⟩ = some (.int .i64 t197):=(blk_cell BK204.out 1).trans rfl
         have hcz72_2 : wc.cell? ⟨gb204,2,none⟩ = some (.slice Ao17 t198.length co17):=(blk_cell BK204.out 2).trans rfl
         have hcz72_3 : wc.cell? ⟨gb204,3,none⟩ = some (.int .i64 t201):=(blk_cell BK204.out 3).trans rfl
         have hcz72_4 : wc.cell? ⟨gb204,4,none⟩ = some (.int .u32 t202):=(blk_cell BK204.out 4).trans rfl
         have hfz72_0:=blk_frozen BK204.out 0
         have hfz72_1:=blk_frozen BK204.out 1
         have hfz72_2:=blk_frozen BK204.out 2
         have hfz72_3:=blk_frozen BK204.out 3
         have hfz72_4:=blk_frozen BK204.out 4
         go_wp2_with (first|((with_reducible refine gate_callee (f:=18) rfl ?_);refine goesL_ (some 60) rfl rfl Try.func18 (by kernel_rfl) rfl #[.agg #[.int .i64 t196,.int .i64 t197,.slice Ao17 t198.length co17,.int .i64 t201,.int .u32 t202],.slice A2 l2.length c2] rfl (by (try simp only [List.map_toArray,List.map_cons,List.map_nil]);first|done|rfl|(simp only [List.length_drop,List.length_take];rfl)) ?_;(with_reducible refine (machine_Run.calls kj5 t196 t197 _ _ t198 t201 t202 _ _ l2 t212 t213 t214 _ ?side1 ?side2 ?side3 ?side4 A48.out).mono ?_);(case side1=>repeat (first|exact (Kd.S_reads' HO_205002.out).2.2|(with_reducible refine Kd.C_alloc ?_ _)|(with_reducible refine Kd.C_drewN ?_ _)|(with_reducible refine Kd.C_drew ?_)));(case side2=>exact (Kd.S_reads' HO_205002.out).2.1);(case side3=>repeat (first|exact (Kd.C_below HR2.out HB.out)|(with_reducible refine Kd.C_alloc ?_ _)|(with_reducible refine Kd.C_drewN ?_ _)|(with_reducible refine Kd.C_drew ?_)));(case side4=>exact HC2.out);rintro e w73 ⟨rfl,hb⟩;refine ⟨_,rfl,?_⟩;have n0_:=Aside0.mk (Kd.R_below (by (with_reducible repeat (first|apply Kd.R_alloc|apply Kd.R_drewN|apply Kd.R_drew));exact HO_9.out) hb);have n1_:=Aside0.mk (Kd.S_below (by (with_reducible repeat (first|apply Kd.S_alloc|apply Kd.S_drewN|apply Kd.S_drew));exact HO_205002.out) hb);have n2_:=Aside0.mk (blk_below (g:=gb194) (o:=.cells #[.int .i64 a0_0,.int .i64 a0_1,.int .i64 a0_2,.slice A0_3 l0_3.length c0_3,.slice A0_4 l0_4.length c0_4,.int .i64 a0_5] 50 (0,0)) (by (with_reducible repeat (first|refine blk_drewN ?_ _|refine blk_drew ?_|refine blk_alloc ?_ _));exact BK194.out) hb);have n3_:=Aside0.mk (blk_below (g:=gb195) (o:=.cells #[.int .i64 a1_0,.int .i64 a1_1,.slice A1_2 l1_2.length c1_2,.int .i64 a1_3,.int .u32 a1_4] 37 (0,0)) (by (with_reducible repeat (first|refine blk_drewN ?_ _|refine blk_drew ?_|refine blk_alloc ?_ _));exact BK195.out) hb);have n4_:=Aside0.mk (blk_below (g:=gb204) (o:=.cells #[.int .i64 t196,.int .i64 t197,.slice Ao17 t198.length co17,.int .i64 t201,.int .u32 t202] 37 (0,0)) (by (with_reducible repeat (first|refine blk_drewN ?_ _|refine blk_drew ?_|refine blk_alloc ?_ _));exact BK204.out) hb);have n5_:=Aside0.mk (below_step (by repeat (first|(with_reducible first|exact HB.out|apply below_alloc|apply pw_below_drewN|apply below_drew1|refine below_set ?_ GE194.out|refine below_set ?_ GE195.out|refine below_set ?_ GE204.out)|exact HB.out)) hb);clear HO_9;clear HO_205002;clear BK194;clear BK195;clear BK204;clear HB;have HO_9:=n0_;have HO_205002:=n1_;have BK194:=n2_;have BK195:=n3_;have BK204:=n4_;have HB:=n5_;clear n0_ n1_ n2_ n3_ n4_ n5_;(try clear hb);(try clear hb2);(try clear hk);(try clear hi);have hnb74:=NB195_194.out;have hnc74:=NB194_195.out;have hcz75_0 : w73.cell? ⟨gb195,0,none⟩ = some (.int .i64 a1_0):=(blk_cell BK195.out 0).trans rfl;have hcz75_1 : w73.cell? ⟨gb195,1,none⟩ = some (.int .i64 a1_1):=(blk_cell BK195.out 1).trans rfl;have hcz75_2 : w73.cell? ⟨gb195,2,none⟩ = some (.slice A1_2 l1_2.length c1_2):=(blk_cell BK195.out 2).trans rfl;have hcz75_3 : w73.cell? ⟨gb195,3,none⟩ = some (.int .i64 a1_3):=(blk_cell BK195.out 3).trans rfl;have hcz75_4 : w73.cell? ⟨gb195,4,none⟩ = some (.int .u32 a1_4):=(blk_cell BK195.out 4).trans rfl;have hfz75_0:=blk_frozen BK195.out 0;have hfz75_1:=blk_frozen BK195.out 1;have hfz75_2:=blk_frozen BK195.out 2;have hfz75_3:=blk_frozen BK195.out 3;have hfz75_4:=blk_frozen BK195.out 4;obtain ⟨Ao76,co76,eo76⟩:=Kd.R_slice HO_9.out;subst eo76)|((with_reducible refine gate_callee (f:=18) rfl ?_);refine goesL_ (some 67) rfl rfl Try.func18 (by kernel_rfl) rfl #[.agg #[.int .i64 a1_0,.int .i64 a1_1,.slice A1_2 l1_2.length c1_2,.int .i64 a1_3,.int .u32 a1_4],.slice Ao76 t205.length co76] rfl (by (try simp only [List.map_toArray,List.map_cons,List.map_nil]);first|done|rfl|(simp only [List.length_drop,List.length_take];rfl)) ?_;(with_reducible refine (machine_Run.calls kj5 a1_0 a1_1 _ _ l1_2 a1_3 a1_4 _ _ t205 t215 t216 t217 _ ?side1 ?side2 ?side3 ?side4 A49.out).mono ?_);(case side1=>repeat (first|exact (Kd.C_below HR1_2.out HB.out)|(with_reducible refine Kd.C_alloc ?_ _)|(with_reducible refine Kd.C_drewN ?_ _)|(with_reducible refine Kd.C_drew ?_)));(case side2=>exact HC1_2.out);(case side3=>repeat (first|exact (Kd.R_reads' HO_9.out).2.2|(with_reducible refine Kd.C_alloc ?_ _)|(with_reducible refine Kd.C_drewN ?_ _)|(with_reducible refine Kd.C_drew ?_)));(case side4=>exact (Kd.R_reads' HO_9.out).2.1);rintro e w77 ⟨rfl,hb⟩;refine ⟨_,rfl,?_⟩;have n0_:=Aside0.mk (Kd.R_below (by (with_reducible repeat (first|apply Kd.R_alloc|apply Kd.R_drewN|apply Kd.R_drew));exact HO_9.out) hb);have n1_:=Aside0.mk (Kd.S_below (by (with_reducible repeat (first|apply Kd.S_alloc|apply Kd.S_drewN|apply Kd.S_drew));exact HO_205002.out) hb);have n2_:=Aside0.mk (blk_below (g:=gb194) (o:=.cells #[.int .i64 a0_0,.int .i64 a0_1,.int .i64 a0_2,.slice A0_3 l0_3.length c0_3,.slice A0_4 l0_4.length c0_4,.int .i64 a0_5] 50 (0,0)) (by (with_reducible repeat (first|refine blk_drewN ?_ _|refine blk_drew ?_|refine blk_alloc ?_ _));exact BK194.out) hb);have n3_:=Aside0.mk (blk_below (g:=gb195) (o:=.cells #[.int .i64 a1_0,.int .i64 a1_1,.slice A1_2 l1_2.length c1_2,.int .i64 a1_3,.int .u32 a1_4] 37 (0,0)) (by (with_reducible repeat (first|refine blk_drewN ?_ _|refine blk_drew ?_|refine blk_alloc ?_ _));exact BK195.out) hb);have n4_:=Aside0.mk (blk_below (g:=gb204) (o:=.cells #[.int .i64 t196,.int .i64 t197,.slice Ao17 t198.length co17,.int .i64 t201,.int .u32 t202] 37 (0,0)) (by (with_reducible repeat (first|refine blk_drewN ?_ _|refine blk_drew ?_|refine blk_alloc ?_ _));exact BK204.out) hb);have n5_:=Aside0.mk (below_step (by repeat (first|(with_reducible first|exact HB.out|apply below_alloc|apply pw_below_drewN|apply below_drew1|refine below_set ?_ GE194.out|refine below_set ?_ GE195.out|refine below_set ?_ GE204.out)|exact HB.out)) hb);clear HO_9;clear HO_205002;clear BK194;clear BK195;clear BK204;clear HB;have HO_9:=n0_;have HO_205002:=n1_;have BK194:=n2_;have BK195:=n3_;have BK204:=n4_;have HB:=n5_;clear n0_ n1_ n2_ n3_ n4_ n5_;(try clear hb);(try clear hb2);(try clear hk);(try clear hi)))
         go_ret
         exact ⟨by first|rfl|(simp [errW_none,errW_some] <;> rfl)|(simp [*,errW_none,errW_some] <;> rfl),by repeat (first|(with_reducible first|exact HB.out|apply below_alloc|apply pw_below_drewN|apply below_drew1|refine below_set ?_ GE194.out|refine below_set ?_ GE195.out|refine below_set ?_ GE204.out)|exact HB.out)⟩
        ·rw [if_neg c69] at H
         have c69b0 : (t217 == 0) = false:=beq_eq_false_iff_ne.mpr c69
         have c69b1 : (t217 != 0) = true:=bne_iff_ne.mpr c69
         obtain rfl:=Option.some.inj H
         have hnb78:=NB204_194.out
         have hnc78:=NB194_204.out
         have hnb79:=NB204_195.out
         have hnc79:=NB195_204.out
         have hcz80_0 : wc.cell? ⟨gb204,0,none⟩ = some (.int .i64 t196):=(blk_cell BK204.out 0).trans rfl
         have hcz80_1 : wc.cell? ⟨gb204,1,none⟩ = some (.int .i64 t197):=(blk_cell BK204.out 1).trans rfl
         have hcz80_2 : wc.cell? ⟨gb204,2,none⟩ = some (.slice Ao17 t198.length co17):=(blk_cell BK204.out 2).trans rfl
         have hcz80_3 : wc.cell? ⟨gb204,3,none⟩ = some (.int .i64 t201):=(blk_cell BK204.out 3).trans rfl
         have hcz80_4 : wc.cell? ⟨gb204,4,none⟩ = some (.int .u32 t202):=(blk_cell BK204.out 4).trans rfl
         have hfz80_0:=blk_frozen BK204.out 0
         have hfz80_1:=blk_frozen BK204.out 1
         have hfz80_2:=blk_frozen BK204.out 2
         have hfz80_3:=blk_frozen BK204.out 3
         have hfz80_4:=blk_frozen BK204.out 4
         go_wp2_with (first|((with_reducible refine gate_callee (f:=18) rfl ?_);refine goesL_ (some 60) rfl rfl Try.func18 (by kernel_rfl) rfl #[.agg #[.int .i64 t196,.int .i64 t197,.slice Ao17 t198.length co17,.int .i64 t201,.int .u32 t202],.slice A2 l2.length c2] rfl (by (try simp only [List.map_toArray,List.map_cons,List.map_nil]);first|done|rfl|(simp only [List.length_drop,List.length_take];rfl)) ?_;(with_reducible refine (machine_Run.calls kj5 t196 t197 _ _ t198 t201 t202 _ _ l2 t212 t213 t214 _ ?side1 ?side2 ?side3 ?side4 A48.out).mono ?_);(case side1=>repeat (first|exact (Kd.S_reads' HO_205002.out).2.2|(with_reducible refine Kd.C_alloc ?_ _)|(with_reducible refine Kd.C_drewN ?_ _)|(with_reducible refine Kd.C_drew ?_)));(case side2=>exact (Kd.S_reads' HO_205002.out).2.1);(case side3=>repeat (first|exact (Kd.C_below HR2.out HB.out)|(with_reducible refine Kd.C_alloc ?_ _)|(with_reducible refine Kd.C_drewN ?_ _)|(with_reducible refine Kd.C_drew ?_)));(case side4=>exact HC2.out);rintro e w81 ⟨rfl,hb⟩;refine ⟨_,rfl,?_⟩;have n0_:=Aside0.mk (Kd.R_below (by (with_reducible repeat (first|apply Kd.R_alloc|apply Kd.R_drewN|apply Kd.R_drew));exact HO_9.out) hb);have n1_:=Aside0.mk (Kd.S_below (by (with_reducible repeat (first|apply Kd.S_alloc|apply Kd.S_drewN|apply Kd.S_drew));exact HO_205002.out) hb);have n2_:=Aside0.mk (blk_below (g:=gb194) (o:=.cells #[.int .i64 a0_0,.int .i64 a0_1,.int .i64 a0_2,.slice A0_3 l0_3.length c0_3,.slice A0_4 l0_4.length c0_4,.int .i64 a0_5] 50 (0,0)) (by (with_reducible repeat (first|refine blk_drewN ?_ _|refine blk_drew ?_|refine blk_alloc ?_ _));exact BK194.out) hb);have n3_:=Aside0.mk (blk_below (g:=gb195) (o:=.cells #[.int .i64 a1_0,.int .i64 a1_1,.slice A1_2 l1_2.length c1_2,.int .i64 a1_3,.int .u32 a1_4] 37 (0,0)) (by (with_reducible repeat (first|refine blk_drewN ?_ _|refine blk_drew ?_|refine blk_alloc ?_ _));exact BK195.out) hb);have n4_:=Aside0.mk (blk_below (g:=gb204) (o:=.cells #[.int .i64 t196,.int .i64 t197,.slice Ao17 t198.length co17,.int .i64 t201,.int .u32 t202] 37 (0,0)) (by (with_reducible repeat (first|refine blk_drewN ?_ _|refine blk_drew ?_|refine blk_alloc ?_ _));exact BK204.out) hb);have n5_:=Aside0.mk (below_step (by repeat (first|(with_reducible first|exact HB.out|apply below_alloc|apply pw_below_drewN|apply below_drew1|refine below_set ?_ GE194.out|refine below_set ?_ GE195.out|refine below_set ?_ GE204.out)|exact HB.out)) hb);clear HO_9;clear HO_205002;clear BK194;clear BK195;clear BK204;clear HB;have HO_9:=n0_;have HO_205002:=n1_;have BK194:=n2_;have BK195:=n3_;have BK204:=n4_;have HB:=n5_;clear n0_ n1_ n2_ n3_ n4_ n5_;(try clear hb);(try clear hb2);(try clear hk);(try clear hi);have hnb82:=NB195_194.out;have hnc82:=NB194_195.out;have hcz83_0 : w81.cell? ⟨gb195,0,none⟩ = some (.int .i64 a1_0):=(blk_cell BK195.out 0).trans rfl;have hcz83_1 : w81.cell? ⟨gb195,1,none⟩ = some (.int .i64 a1_1):=(blk_cell BK195.out 1).trans rfl;have hcz83_2 : w81.cell? ⟨gb195,2,none⟩ = some (.slice A1_2 l1_2.length c1_2):=(blk_cell BK195.out 2).trans rfl;have hcz83_3 : w81.cell? ⟨gb195,3,none⟩ = some (.int .i64 a1_3):=(blk_cell BK195.out 3).trans rfl;have hcz83_4 : w81.cell? ⟨gb195,4,none⟩ = some (.int .u32 a1_4):=(blk_cell BK195.out 4).trans rfl;have hfz83_0:=blk_frozen BK195.out 0;have hfz83_1:=blk_frozen BK195.out 1;have hfz83_2:=blk_frozen BK195.out 2;have hfz83_3:=blk_frozen BK195.out 3;have hfz83_4:=blk_frozen BK195.out 4;obtain ⟨Ao84,co84,eo84⟩:=Kd.R_slice HO_9.out;subst eo84)|((with_reducible refine gate_callee (f:=18) rfl ?_);refine goesL_ (some 67) rfl rfl Try.func18 (by kernel_rfl) rfl #[.agg #[.int .i64 a1_0,.int .i64 a1_1,.slice A1_2 l1_2.length c1_2,.int .i64 a1_3,.int .u32 a1_4],.slice Ao84 t205.length co84] rfl (by (try simp only [List.map_toArray,List.map_cons,List.map_nil]);first|done|rfl|(simp only [List.length_drop,List.length_take];rfl)) ?_;(with_reducible refine (machine_Run.calls kj5 a1_0 a1_1 _ _ l1_2 a1_3 a1_4 _ _ t205 t215 t216 t217 _ ?side1 ?side2 ?side3 ?side4 A49.out).mono ?_);(case side1=>repeat (first|exact (Kd.C_below HR1_2.out HB.out)|(with_reducible refine Kd.C_alloc ?_ _)|(with_reducible refine Kd.C_drewN ?_ _)|(with_reducible refine Kd.C_drew ?_)));(case side2=>exact HC1_2.out);(case side3=>repeat (first|exact (Kd.R_reads' HO_9.out).2.2|(with_reducible refine Kd.C_alloc ?_ _)|(with_reducible refine Kd.C_drewN ?_ _)|(with_reducible refine Kd.C_drew ?_)));(case side4=>exact (Kd.R_reads' HO_9.out).2.1);rintro e w85 ⟨rfl,hb⟩;refine ⟨_,rfl,?_⟩;have n0_:=Aside0.mk (Kd.R_below (by (with_reducible repeat (first|apply Kd.R_alloc|apply Kd.R_drewN|apply Kd.R_drew));exact HO_9.out) hb);have n1_:=Aside0.mk (Kd.S_below (by (with_reducible repeat (first|apply Kd.S_alloc|apply Kd.S_drewN|apply Kd.S_drew));exact HO_205002.out) hb);have n2_:=Aside0.mk (blk_below (g:=gb194) (o:=.cells #[.int .i64 a0_0,.int .i64 a0_1,.int .i64 a0_2,.slice A0_3 l0_3.length c0_3,.slice A0_4 l0_4.length c0_4,.int .i64 a0_5] 50 (0,0)) (by (with_reducible repeat (first|refine blk_drewN ?_ _|refine blk_drew ?_|refine blk_alloc ?_ _));exact BK194.out) hb);have n3_:=Aside0.mk (blk_below (g:=gb195) (o:=.cells #[.int .i64 a1_0,.int .i64 a1_1,.slice A1_2 l1_2.length c1_2,.int .i64 a1_3,.int .u32 a1_4] 37 (0,0)) (by (with_reducible repeat (first|refine blk_drewN ?_ _|refine blk_drew ?_|refine blk_alloc ?_ _));exact BK195.out) hb);have n4_:=Aside0.mk (blk_below (g:=gb204) (o:=.cells #[.int .i64 t196,.int .i64 t197,.slice Ao17 t198.length co17,.int .i64 t201,.int .u32 t202] 37 (0,0)) (by (with_reducible repeat (first|refine blk_drewN ?_ _|refine blk_drew ?_|refine blk_alloc ?_ _));exact BK204.out) hb);have n5_:=Aside0.mk (below_step (by repeat (first|(with_reducible first|exact HB.out|apply below_alloc|apply pw_below_drewN|apply below_drew1|refine below_set ?_ GE194.out|refine below_set ?_ GE195.out|refine below_set ?_ GE204.out)|exact HB.out)) hb);clear HO_9;clear HO_205002;clear BK194;clear BK195;clear BK204;clear HB;have HO_9:=n0_;have HO_205002:=n1_;have BK194:=n2_;have BK195:=n3_;have BK204:=n4_;have HB:=n5_;clear n0_ n1_ n2_ n3_ n4_ n5_;(try clear hb);(try clear hb2);(try clear hk);(try clear hi)))
         go_ret
         exact ⟨by first|rfl|(simp [errW_none,errW_some] <;> rfl)|(simp [*,errW_none,errW_some] <;> rfl),by repeat (first|(with_reducible first|exact HB.out|apply below_alloc|apply pw_below_drewN|apply below_drew1|refine below_set ?_ GE194.out|refine below_set ?_ GE195.out|refine below_set ?_ GE204.out)|exact HB.out)⟩
      ·rw [if_neg c50] at H
       have c50b0 : (t214 == 0) = false:=beq_eq_false_iff_ne.mpr c50
       have c50b1 : (t214 != 0) = true:=bne_iff_ne.mpr c50
       obtain rfl:=Option.some.inj H
       have hnb86:=NB204_194.out
       have hnc86:=NB194_204.out
       have hnb87:=NB204_195.out
       have hnc87:=NB195_204.out
       have hcz88_0 : wc.cell? ⟨gb204,0,none⟩ = some (.int .i64 t196):=(blk_cell BK204.out 0).trans rfl
       have hcz88_1 : wc.cell? ⟨gb204,1,none⟩ = some (.int .i64 t197):=(blk_cell BK204.out 1).trans rfl
       have hcz88_2 : wc.cell? ⟨gb204,2,none⟩ = some (.slice Ao17 t198.length co17):=(blk_cell BK204.out 2).trans rfl
       have hcz88_3 : wc.cell? ⟨gb204,3,none⟩ = some (.int .i64 t201):=(blk_cell BK204.out 3).trans rfl
       have hcz88_4 : wc.cell? ⟨gb204,4,none⟩ = some (.int .u32 t202):=(blk_cell BK204.out 4).trans rfl
       have hfz88_0:=blk_frozen BK204.out 0
       have hfz88_1:=blk_frozen BK204.out 1
       have hfz88_2:=blk_frozen BK204.out 2
       have hfz88_3:=blk_frozen BK204.out 3
       have hfz88_4:=blk_frozen BK204.out 4
       go_wp2_with (first|((with_reducible refine gate_callee (f:=18) rfl ?_);refine goesL_ (some 60) rfl rfl Try.func18 (by kernel_rfl) rfl #[.agg #[.int .i64 t196,.int .i64 t197,.slice Ao17 t198.length co17,.int .i64 t201,.int .u32 t202],.slice A2 l2.length c2] rfl (by (try simp only [List.map_toArray,List.map_cons,List.map_nil]);first|done|rfl|(simp only [List.length_drop,List.length_take];rfl)) ?_;(with_reducible refine (machine_Run.calls kj5 t196 t197 _ _ t198 t201 t202 _ _ l2 t212 t213 t214 _ ?side1 ?side2 ?side3 ?side4 A48.out).mono ?_);(case side1=>repeat (first|exact (Kd.S_reads' HO_205002.out).2.2|(with_reducible refine Kd.C_alloc ?_ _)|(with_reducible refine Kd.C_drewN ?_ _)|(with_reducible refine Kd.C_drew ?_)));(case side2=>exact (Kd.S_reads' HO_205002.out).2.1);(case side3=>repeat (first|exact (Kd.C_below HR2.out HB.out)|(with_reducible refine Kd.C_alloc ?_ _)|(with_reducible refine Kd.C_drewN ?_ _)|(with_reducible refine Kd.C_drew ?_)));(case side4=>exact HC2.out);rintro e w89 ⟨rfl,hb⟩;refine ⟨_,rfl,?_⟩;have n0_:=Aside0.mk (Kd.R_below (by (with_reducible repeat (first|apply Kd.R_alloc|apply Kd.R_drewN|apply Kd.R_drew));exact HO_9.out) hb);have n1_:=Aside0.mk (Kd.S_below (by (with_reducible repeat (first|apply Kd.S_alloc|apply Kd.S_drewN|apply Kd.S_drew));exact HO_205002.out) hb);have n2_:=Aside0.mk (blk_below (g:=gb194) (o:=.cells #[.int .i64 a0_0,.int .i64 a0_1,.int .i64 a0_2,.slice A0_3 l0_3.length c0_3,.slice A0_4 l0_4.length c0_4,.int .i64 a0_5] 50 (0,0)) (by (with_reducible repeat (first|refine blk_drewN ?_ _|refine blk_drew ?_|refine blk_alloc ?_ _));exact BK194.out) hb);have n3_:=Aside0.mk (blk_below (g:=gb195) (o:=.cells #[.int .i64 a1_0,.int .i64 a1_1,.slice A1_2 l1_2.length c1_2,.int .i64 a1_3,.int .u32 a1_4] 37 (0,0)) (by (with_reducible repeat (first|refine blk_drewN ?_ _|refine blk_drew ?_|refine blk_alloc ?_ _));exact BK195.out) hb);have n4_:=Aside0.mk (blk_below (g:=gb204) (o:=.cells #[.int .i64 t196,.int .i64 t197,.slice Ao17 t198.length co17,.int .i64 t201,.int .u32 t202] 37 (0,0)) (by (with_reducible repeat (first|refine blk_drewN ?_ _|refine blk_drew ?_|refine blk_alloc ?_ _));exact BK204.out) hb);have n5_:=Aside0.mk (below_step (by repeat (first|(with_reducible first|exact HB.out|apply below_alloc|apply pw_below_drewN|apply below_drew1|refine below_set ?_ GE194.out|refine below_set ?_ GE195.out|refine below_set ?_ GE204.out)|exact HB.out)) hb);clear HO_9;clear HO_205002;clear BK194;clear BK195;clear BK204;clear HB;have HO_9:=n0_;have HO_205002:=n1_;have BK194:=n2_;have BK195:=n3_;have BK204:=n4_;have HB:=n5_;clear n0_ n1_ n2_ n3_ n4_ n5_;(try clear hb);(try clear hb2);(try clear hk);(try clear hi);have hnb90:=NB195_194.out;have hnc90:=NB194_195.out;have hcz91_0 : w89.cell? ⟨gb195,0,none⟩ = some (.int .i64 a1_0):=(blk_cell BK195.out 0).trans rfl;have hcz91_1 : w89.cell? ⟨gb195,1,none⟩ = some (.int .i64 a1_1):=(blk_cell BK195.out 1).trans rfl;have hcz91_2 : w89.cell? ⟨gb195,2,none⟩ = some (.slice A1_2 l1_2.length c1_2):=(blk_cell BK195.out 2).trans rfl;have hcz91_3 : w89.cell? ⟨gb195,3,none⟩ = some (.int .i64 a1_3):=(blk_cell BK195.out 3).trans rfl;have hcz91_4 : w89.cell? ⟨gb195,4,none⟩ = some (.int .u32 a1_4):=(blk_cell BK195.out 4).trans rfl;have hfz91_0:=blk_frozen BK195.out 0;have hfz91_1:=blk_frozen BK195.out 1;have hfz91_2:=blk_frozen BK195.out 2;have hfz91_3:=blk_frozen BK195.out 3;have hfz91_4:=blk_frozen BK195.out 4;obtain ⟨Ao92,co92,eo92⟩:=Kd.R_slice HO_9.out;subst eo92)|((with_reducible refine gate_callee (f:=18) rfl ?_);refine goesL_ (some 67) rfl rfl Try.func18 (by kernel_rfl) rfl #[.agg #[.int .i64 a1_0,.int .i64 a1_1,.slice A1_2 l1_2.length c1_2,.int .i64 a1_3,.int .u32 a1_4],.slice Ao92 t205.length co92] rfl (by (try simp only [List.map_toArray,List.map_cons,List.map_nil]);first|done|rfl|(simp only [List.length_drop,List.length_take];rfl)) ?_;(with_reducible refine (machine_Run.calls kj5 a1_0 a1_1 _ _ l1_2 a1_3 a1_4 _ _ t205 t215 t216 t217 _ ?side1 ?side2 ?side3 ?side4 A49.out).mono ?_);(case side1=>repeat (first|exact (Kd.C_below HR1_2.out HB.out)|(with_reducible refine Kd.C_alloc ?_ _)|(with_reducible refine Kd.C_drewN ?_ _)|(with_reducible refine Kd.C_drew ?_)));(case side2=>exact HC1_2.out);(case side3=>repeat (first|exact (Kd.R_reads' HO_9.out).2.2|(with_reducible refine Kd.C_alloc ?_ _)|(with_reducible refine Kd.C_drewN ?_ _)|(with_reducible refine Kd.C_drew ?_)));(case side4=>exact (Kd.R_reads' HO_9.out).2.1);rintro e w93 ⟨rfl,hb⟩;refine ⟨_,rfl,?_⟩;have n0_:=Aside0.mk (Kd.R_below (by (with_reducible repeat (first|apply Kd.R_alloc|apply Kd.R_drewN|apply Kd.R_drew));exact HO_9.out) hb);have n1_:=Aside0.mk (Kd.S_below (by (with_reducible repeat (first|apply Kd.S_alloc|apply Kd.S_drewN|apply Kd.S_drew));exact HO_205002.out) hb);have n2_:=Aside0.mk (blk_below (g:=gb194) (o:=.cells #[.int .i64 a0_0,.int .i64 a0_1,.int .i64 a0_2,.slice A0_3 l0_3.length c0_3,.slice A0_4 l0_4.length c0_4,.int .i64 a0_5] 50 (0,0)) (by (with_reducible repeat (first|refine blk_drewN ?_ _|refine blk_drew ?_|refine blk_alloc ?_ _));exact BK194.out) hb);have n3_:=Aside0.mk (blk_below (g:=gb195) (o:=.cells #[.int .i64 a1_0,.int .i64 a1_1,.slice A1_2 l1_2.length c1_2,.int .i64 a1_3,.int .u32 a1_4] 37 (0,0)) (by (with_reducible repeat (first|refine blk_drewN ?_ _|refine blk_drew ?_|refine blk_alloc ?_ _));exact BK195.out) hb);have n4_:=Aside0.mk (blk_below (g:=gb204) (o:=.cells #[.int .i64 t196,.int .i64 t197,.slice Ao17 t198.length co17,.int .i64 t201,.int .u32 t202] 37 (0,0)) (by (with_reducible repeat (first|refine blk_drewN ?_ _|refine blk_drew ?_|refine blk_alloc ?_ _));exact BK204.out) hb);have n5_:=Aside0.mk (below_step (by repeat (first|(with_reducible first|exact HB.out|apply below_alloc|apply pw_below_drewN|apply below_drew1|refine below_set ?_ GE194.out|refine below_set ?_ GE195.out|refine below_set ?_ GE204.out)|exact HB.out)) hb);clear HO_9;clear HO_205002;clear BK194;clear BK195;clear BK204;clear HB;have HO_9:=n0_;have HO_205002:=n1_;have BK194:=n2_;have BK195:=n3_;have BK204:=n4_;have HB:=n5_;clear n0_ n1_ n2_ n3_ n4_ n5_;(try clear hb);(try clear hb2);(try clear hk);(try clear hi)))
       go_ret
       exact ⟨by first|rfl|(simp [errW_none,errW_some] <;> rfl)|(simp [*,errW_none,errW_some] <;> rfl),by repeat (first|(with_reducible first|exact HB.out|apply below_alloc|apply pw_below_drewN|apply below_drew1|refine below_set ?_ GE194.out|refine below_set ?_ GE195.out|refine below_set ?_ GE204.out)|exact HB.out)⟩
     ·rw [if_neg c47] at H
      have c47b0 : (t203 == 0) = false:=beq_eq_false_iff_ne.mpr c47
      have c47b1 : (t203 != 0) = true:=bne_iff_ne.mpr c47
      obtain rfl:=Option.some.inj H
      have hnb94:=NB204_194.out
      have hnc94:=NB194_204.out
      have hnb95:=NB204_195.out
      have hnc95:=NB195_204.out
      have hcz96_0 : wc.cell? ⟨gb204,0,none⟩ = some (.int .i64 t196):=(blk_cell BK204.out 0).trans rfl
      have hcz96_1 : wc.cell? ⟨gb204,1,none⟩ = some (.int .i64 t197):=(blk_cell BK204.out 1).trans rfl
      have hcz96_2 : wc.cell? ⟨gb204,2,none⟩ = some (.slice Ao17 t198.length co17):=(blk_cell BK204.out 2).trans rfl
      have hcz96_3 : wc.cell? ⟨gb204,3,none⟩ = some (.int .i64 t201):=(blk_cell BK204.out 3).trans rfl
      have hcz96_4 : wc.cell? ⟨gb204,4,none⟩ = some (.int .u32 t202):=(blk_cell BK204.out 4).trans rfl
      have hfz96_0:=blk_frozen BK204.out 0
      have hfz96_1:=blk_frozen BK204.out 1
      have hfz96_2:=blk_frozen BK204.out 2
      have hfz96_3:=blk_frozen BK204.out 3
      have hfz96_4:=blk_frozen BK204.out 4
      go_wp2
      go_ret
      exact ⟨by first|rfl|(simp [errW_none,errW_some] <;> rfl)|(simp [*,errW_none,errW_some] <;> rfl),by repeat (first|(with_reducible first|exact HB.out|apply below_alloc|apply pw_below_drewN|apply below_drew1|refine below_set ?_ GE194.out|refine below_set ?_ GE195.out|refine below_set ?_ GE204.out)|exact HB.out)⟩
    ·rw [if_neg c46] at H
     have c46b0 : (t208 == 0) = false:=beq_eq_false_iff_ne.mpr c46
     have c46b1 : (t208 != 0) = true:=bne_iff_ne.mpr c46
     obtain rfl:=Option.some.inj H
     go_wp2
     go_ret
     exact ⟨by first|rfl|(simp [errW_none,errW_some] <;> rfl)|(simp [*,errW_none,errW_some] <;> rfl),by repeat (first|(with_reducible first|exact HB.out|apply below_alloc|apply pw_below_drewN|apply below_drew1|refine below_set ?_ GE194.out|refine below_set ?_ GE195.out|refine below_set ?_ GE204.out)|exact HB.out)⟩
/-- THE ONE PURE STATEMENT of coppicerkeep_TurnerBefore: yours. -/
def coppicerkeep_TurnerBefore.Pure : Prop:=∀ (a0_0 : Int) (a0_1 : Int) (a0_2 : Int) (l0_3 : List (List Int)) (l0_4 : List (List (List Int))) (a0_5 : Int) (a1_0 : Int) (a1_1 : Int) (l1_2 : List (List Int)) (a1_3 : Int) (a1_4 : Int) (l2 : List Int),((Lit.int .i64 a0_0).wf = true) → ((Lit.int .i64 a0_1).wf = true) → ((Lit.int .i64 a0_2).wf = true) → (l0_3.length ≤ 9223372036854775807 ∧ l0_3.length * 24 ≤ 140737488351232 ∧ ∀ y_ ∈ l0_3,y_.length ≤ 9223372036854775807 ∧ y_.length * 8 ≤ 140737488351232 ∧ ∀ y__ ∈ y_,(Lit.int .i64 y__).wf = true) → (l0_4.length ≤ 9223372036854775807 ∧ l0_4.length * 24 ≤ 140737488351232 ∧ ∀ y_ ∈ l0_4,y_.length ≤ 9223372036854775807 ∧ y_.length * 24 ≤ 140737488351232 ∧ ∀ y__ ∈ y_,y__.length ≤ 9223372036854775807 ∧ y__.length * 8 ≤ 140737488351232 ∧ ∀ y___ ∈ y__,(Lit.int .i64 y___).wf = true) → ((Lit.int .i64 a0_5).wf = true) → ((Lit.int .i64 a1_0).wf = true) → ((Lit.int .i64 a1_1).wf = true) → (l1_2.length ≤ 9223372036854775807 ∧ l1_2.length * 24 ≤ 140737488351232 ∧ ∀ y_ ∈ l1_2,y_.length ≤ 9223372036854775807 ∧ y_.length * 8 ≤ 140737488351232 ∧ ∀ y__ ∈ y_,(Lit.int .i64 y__).wf = true) → ((Lit.int .i64 a1_3).wf = true) → ((Lit.int .u32 a1_4).wf = true) → (l2.length ≤ 9223372036854775807 ∧ l2.length * 8 ≤ 140737488351232 ∧ ∀ y_ ∈ l2,(Lit.int .i64 y_).wf = true) → ∃ k,coppicerkeep_TurnerBefore.f k a0_0 a0_1 a0_2 l0_3 l0_4 a0_5 a1_0 a1_1 l1_2 a1_3 a1_4 l2 = some true
theorem coppicerkeep_TurnerBefore.walk (P : coppicerkeep_TurnerBefore.Pure) (a0_0 : Int) (a0_1 : Int) (a0_2 : Int) (A0_3 : Option Addr) (l0_3 : List (List Int)) (c0_3 : Nat) (A0_4 : Option Addr) (l0_4 : List (List (List Int))) (c0_4 : Nat) (a0_5 : Int) (a1_0 : Int) (a1_1 : Int) (A1_2 : Option Addr) (l1_2 : List (List Int)) (c1_2 : Nat) (a1_3 : Int) (a1_4 : Int) (A2 : Option Addr) (l2 : List Int) (c2 : Nat) (w : World) (w0_0 : (Lit.int .i64 a0_0).wf = true) (w0_1 : (Lit.int .i64 a0_1).wf = true) (w0_2 : (Lit.int .i64 a0_2).wf = true) (hr0_3 : Kd.C (Kd.slice 3 (Kd.int .i64)) w A0_3 l0_3.length l0_3) (hc0_3 : l0_3.length ≤ c0_3) (w0_3 : l0_3.length ≤ 9223372036854775807 ∧ l0_3.length * 24 ≤ 140737488351232 ∧ ∀ y_ ∈ l0_3,y_.length ≤ 9223372036854775807 ∧ y_.length * 8 ≤ 140737488351232 ∧ ∀ y__ ∈ y_,(Lit.int .i64 y__).wf = true) (hr0_4 : Kd.C (Kd.slice 28 (Kd.slice 3 (Kd.int .i64))) w A0_4 l0_4.length l0_4) (hc0_4 : l0_4.length ≤ c0_4) (w0_4 : l0_4.length ≤ 9223372036854775807 ∧ l0_4.length * 24 ≤ 140737488351232 ∧ ∀ y_ ∈ l0_4,y_.length ≤ 9223372036854775807 ∧ y_.length * 24 ≤ 140737488351232 ∧ ∀ y__ ∈ y_,y__.length ≤ 9223372036854775807 ∧ y__.length * 8 ≤ 140737488351232 ∧ ∀ y___ ∈ y__,(Lit.int .i64 y___).wf = true) (w0_5 : (Lit.int .i64 a0_5).wf = true) (w1_0 : (Lit.int .i64 a1_0).wf = true) (w1_1 : (Lit.int .i64 a1_1).wf = true) (hr1_2 : Kd.C (Kd.slice 3 (Kd.int .i64)) w A1_2 l1_2.length l1_2) (hc1_2 : l1_2.length ≤ c1_2) (w1_2 : l1_2.length ≤ 9223372036854775807 ∧ l1_2.length * 24 ≤ 140737488351232 ∧ ∀ y_ ∈ l1_2,y_.length ≤ 9223372036854775807 ∧ y_.length * 8 ≤ 140737488351232 ∧ ∀ y__ ∈ y_,(Lit.int .i64 y__).wf = true) (w1_3 : (Lit.int .i64 a1_3).wf = true) (w1_4 : (Lit.int .u32 a1_4).wf = true) (hr2 : Kd.C (Kd.int .i64) w A2 l2.length l2) (hc2 : l2.length ≤ c2) (w2 : l2.length ≤ 9223372036854775807 ∧ l2.length * 8 ≤ 140737488351232 ∧ ∀ y_ ∈ l2,(Lit.int .i64 y_).wf = true) :
  Calls Try.prog 10 #[.agg #[.int .i64 a0_0,.int .i64 a0_1,.int .i64 a0_2,.slice A0_3 l0_3.length c0_3,.slice A0_4 l0_4.length c0_4,.int .i64 a0_5],.agg #[.int .i64 a1_0,.int .i64 a1_1,.slice A1_2 l1_2.length c1_2,.int .i64 a1_3,.int .u32 a1_4],.slice A2 l2.length c2] w fun e w'=>e = .returned (.bool true) ∧ Below w.heap.size w w':=by
 obtain ⟨k,h⟩:=P a0_0 a0_1 a0_2 l0_3 l0_4 a0_5 a1_0 a1_1 l1_2 a1_3 a1_4 l2 w0_0 w0_1 w0_2 w0_3 w0_4 w0_5 w1_0 w1_1 w1_2 w1_3 w1_4 w2
 refine (coppicerkeep_TurnerBefore.calls k _ _ _ _ _ _ _ _ _ _ _ _ _ _ _ _ _ _ _ _ true w hr0_3 hc0_3 hr0_4 hc0_4 hr1_2 hc1_2 hr2 hc2 h).mono ?_
 rintro e w' ⟨rfl,hd⟩
 exact ⟨rfl,hd⟩
end Go.Proofs.Ytiiankjmeodjdaa.GV
