-- Written by ext.py, a program of this session.
import Derived.Test.YtlkeemcapemkiaaGA0
import Derived.Test.YtlkeemcapemkiaaGA4
import Derived.Test.YtlkeemcapemkiaaGA5
import Derived.Test.YtlkeemcapemkiaaGA7
namespace Go.Proofs.Ytlkeemcapemkiaa.GA
open Go.RowKit Go.Proofs.YtlkeemcapemkiaaW.PrintWords Go.Proofs.YtlkeemcapemkiaaW.PrintLast Go.Proofs.YtlkeemcapemkiaaW.PrintMore
attribute [local go_sem] max2_int min2_int max_two min_two max_three min_three max_four min_four cellIs_set   -- for this text's walks alone
set_option linter.unusedVariables false
set_option linter.unusedSimpArgs false
/-! ### coppicerkeep_TurnerThen: function 3 -/
mutual
def coppicerkeep_TurnerThen.j0 : Nat → List Int → Int → List Int → Int → Bool → Int → Int → Int → List (List Int) → List (List (List Int)) → Int → Int → Int → Int → List (List Int) → List (List (List Int)) → Int → Option (Bool)
 | 0,_,_,_,_,_,_,_,_,_,_,_,_,_,_,_,_,_=>none
 | k + 1,x2,x8,x9,x10,x41,x195000,x195001,x195002,x195003,x195004,x195005,x207000,x207001,x207002,x207003,x207004,x207005=>if x41 = true then (if x8 = 0 then (some (x10 != 0)) else (some true)) else (if x10 = 0 then (if x8 = 0 then ((turner_Run.f k x195000 x195001 x195002 x195003 x195004 x195005 x9).bind fun bt214=>((turner_Run.f k x207000 x207001 x207002 x207003 x207004 x207005 x2).bind fun bt218=>(if bt218.2 = 0 then (if (x9.length : Int) > 12 then (if bt214.2 = 0 then ((coppicerref_Ints.f k bt214.1 bt218.1).bind fun t222=>(coppicerkeep_TurnerThen.j1 k t222)) else (coppicerkeep_TurnerThen.j1 k true)) else (if bt214.2 = 0 then ((coppicerref_Ints.f k bt214.1 bt218.1).bind fun t223=>(coppicerkeep_TurnerThen.j1 k t223)) else (coppicerkeep_TurnerThen.j1 k false))) else (coppicerkeep_TurnerThen.j1 k false)))) else (some (x207000 == 0))) else (some false))
def coppicerkeep_TurnerThen.j1 : Nat → Bool → Option (Bool)
 | 0,_=>none
 | k + 1,x6=>some x6
end
def coppicerkeep_TurnerThen.f (k : Nat) (a0_0 : Int) (a0_1 : Int) (a0_2 : Int) (l0_3 : List (List Int)) (l0_4 : List (List (List Int))) (a0_5 : Int) (a1_0 : Int) (a1_1 : Int) (a1_2 : Int) (l1_3 : List (List Int)) (l1_4 : List (List (List Int))) (a1_5 : Int) (l2 : List Int) : Option (Bool):=(turner_Then.f k a0_0 a0_1 a0_2 l0_3 l0_4 a0_5 a1_0 a1_1 a1_2 l1_3 l1_4 a1_5).bind fun bt195=>((turner_Run.f k a0_0 a0_1 a0_2 l0_3 l0_4 a0_5 l2).bind fun bt207=>((coppicerkeep_turning.f k a0_0 a0_1 a0_2 l0_3 l0_4 a0_5).bind fun t211=>(if t211 = true then ((coppicerkeep_turning.f k a1_0 a1_1 a1_2 l1_3 l1_4 a1_5).bind fun t212=>(if t212 = true then ((coppicerref_WordCheck.f k a0_1 l2).bind fun t213=>(coppicerkeep_TurnerThen.j0 k l2 bt195.2.2.2.2.2.2 bt207.1 bt207.2 (t213 != 0) a1_0 a1_1 a1_2 l1_3 l1_4 a1_5 bt195.1 bt195.2.1 bt195.2.2.1 bt195.2.2.2.1 bt195.2.2.2.2.1 bt195.2.2.2.2.2.1)) else (coppicerkeep_TurnerThen.j0 k l2 bt195.2.2.2.2.2.2 bt207.1 bt207.2 true a1_0 a1_1 a1_2 l1_3 l1_4 a1_5 bt195.1 bt195.2.1 bt195.2.2.1 bt195.2.2.2.1 bt195.2.2.2.2.1 bt195.2.2.2.2.2.1))) else (coppicerkeep_TurnerThen.j0 k l2 bt195.2.2.2.2.2.2 bt207.1 bt207.2 true a1_0 a1_1 a1_2 l1_3 l1_4 a1_5 bt195.1 bt195.2.1 bt195.2.2.1 bt195.2.2.2.1 bt195.2.2.2.2.1 bt195.2.2.2.2.2.1))))
theorem coppicerkeep_TurnerThen.mono_l : ∀ k,(∀ y0 y1 y2 y3 y4 y5 y6 y7 y8 y9 y10 y11 y12 y13 y14 y15 y16,LeO (coppicerkeep_TurnerThen.j0 k y0 y1 y2 y3 y4 y5 y6 y7 y8 y9 y10 y11 y12 y13 y14 y15 y16) (coppicerkeep_TurnerThen.j0 (k + 1) y0 y1 y2 y3 y4 y5 y6 y7 y8 y9 y10 y11 y12 y13 y14 y15 y16)) ∧ (∀ y0,LeO (coppicerkeep_TurnerThen.j1 k y0) (coppicerkeep_TurnerThen.j1 (k + 1) y0))
 | 0=>⟨fun _ _ _ _ _ _ _ _ _ _ _ _ _ _ _ _ _ r h=>by simp [coppicerkeep_TurnerThen.j0] at h,fun _ r h=>by simp [coppicerkeep_TurnerThen.j1] at h⟩
 | k + 1=>by
  obtain ⟨ih0,ih1⟩:=coppicerkeep_TurnerThen.mono_l k
  refine ⟨?_,?_⟩
  ·intro y0 y1 y2 y3 y4 y5 y6 y7 y8 y9 y10 y11 y12 y13 y14 y15 y16
   unfold coppicerkeep_TurnerThen.j0
   repeat' first
   | (with_reducible exact ih0 _ _ _ _ _ _ _ _ _ _ _ _ _ _ _ _ _)
   | (with_reducible exact ih1 _)
   | (with_reducible exact coppicerkeep_turning.mono _ _ _ _ _ _ _)
   | (with_reducible exact coppicerref_Ints.mono _ _ _)
   | (with_reducible exact coppicerref_WordCheck.mono _ _ _)
   | (with_reducible exact turner_Run.mono _ _ _ _ _ _ _ _)
   | (with_reducible exact turner_Then.mono _ _ _ _ _ _ _ _ _ _ _ _ _)
   | (with_reducible exact LeO.refl _)
   | (with_reducible exact LeO.none _)
   | (with_reducible refine LeO.ite ?_ ?_)
   | (with_reducible refine LeO.bind ?_ (fun _=>?_))
   | exact ih0 _ _ _ _ _ _ _ _ _ _ _ _ _ _ _ _ _
   | exact ih1 _
   | exact coppicerkeep_turning.mono _ _ _ _ _ _ _
   | exact coppicerref_Ints.mono _ _ _
   | exact coppicerref_WordCheck.mono _ _ _
   | exact turner_Run.mono _ _ _ _ _ _ _ _
   | exact turner_Then.mono _ _ _ _ _ _ _ _ _ _ _ _ _
   | exact LeO.none _
   | refine LeO.ite ?_ ?_
   | refine LeO.bind ?_ (fun _=>?_)
  ·intro y0
   unfold coppicerkeep_TurnerThen.j1
   repeat' first
   | (with_reducible exact ih0 _ _ _ _ _ _ _ _ _ _ _ _ _ _ _ _ _)
   | (with_reducible exact ih1 _)
   | (with_reducible exact coppicerkeep_turning.mono _ _ _ _ _ _ _)
   | (with_reducible exact coppicerref_Ints.mono _ _ _)
   | (with_reducible exact coppicerref_WordCheck.mono _ _ _)
   | (with_reducible exact turner_Run.mono _ _ _ _ _ _ _ _)
   | (with_reducible exact turner_Then.mono _ _ _ _ _ _ _ _ _ _ _ _ _)
   | (with_reducible exact LeO.refl _)
   | (with_reducible exact LeO.none _)
   | (with_reducible refine LeO.ite ?_ ?_)
   | (with_reducible refine LeO.bind ?_ (fun _=>?_))
   | exact ih0 _ _ _ _ _ _ _ _ _ _ _ _ _ _ _ _ _
   | exact ih1 _
   | exact coppicerkeep_turning.mono _ _ _ _ _ _ _
   | exact coppicerref_Ints.mono _ _ _
   | exact coppicerref_WordCheck.mono _ _ _
   | exact turner_Run.mono _ _ _ _ _ _ _ _
   | exact turner_Then.mono _ _ _ _ _ _ _ _ _ _ _ _ _
   | exact LeO.none _
   | refine LeO.ite ?_ ?_
   | refine LeO.bind ?_ (fun _=>?_)
theorem coppicerkeep_TurnerThen.mono : ∀ a0 a1 a2 a3 a4 a5 a6 a7 a8 a9 a10 a11 a12 k,LeO (coppicerkeep_TurnerThen.f k a0 a1 a2 a3 a4 a5 a6 a7 a8 a9 a10 a11 a12) (coppicerkeep_TurnerThen.f (k + 1) a0 a1 a2 a3 a4 a5 a6 a7 a8 a9 a10 a11 a12):=by
 intro a0 a1 a2 a3 a4 a5 a6 a7 a8 a9 a10 a11 a12 k
 obtain ⟨ih0,ih1⟩:=coppicerkeep_TurnerThen.mono_l k
 unfold coppicerkeep_TurnerThen.f
 repeat' first
   | (with_reducible exact ih0 _ _ _ _ _ _ _ _ _ _ _ _ _ _ _ _ _)
   | (with_reducible exact ih1 _)
   | (with_reducible exact coppicerkeep_turning.mono _ _ _ _ _ _ _)
   | (with_reducible exact coppicerref_Ints.mono _ _ _)
   | (with_reducible exact coppicerref_WordCheck.mono _ _ _)
   | (with_reducible exact turner_Run.mono _ _ _ _ _ _ _ _)
   | (with_reducible exact turner_Then.mono _ _ _ _ _ _ _ _ _ _ _ _ _)
   | (with_reducible exact LeO.refl _)
   | (with_reducible exact LeO.none _)
   | (with_reducible refine LeO.ite ?_ ?_)
   | (with_reducible refine LeO.bind ?_ (fun _=>?_))
   | exact ih0 _ _ _ _ _ _ _ _ _ _ _ _ _ _ _ _ _
   | exact ih1 _
   | exact coppicerkeep_turning.mono _ _ _ _ _ _ _
   | exact coppicerref_Ints.mono _ _ _
   | exact coppicerref_WordCheck.mono _ _ _
   | exact turner_Run.mono _ _ _ _ _ _ _ _
   | exact turner_Then.mono _ _ _ _ _ _ _ _ _ _ _ _ _
   | exact LeO.none _
   | refine LeO.ite ?_ ?_
   | refine LeO.bind ?_ (fun _=>?_)
set_option maxHeartbeats 8000000 in
set_option maxRecDepth 100000 in
theorem coppicerkeep_TurnerThen.calls (k : Nat) (a0_0 : Int) (a0_1 : Int) (a0_2 : Int) (A0_3 : Option Addr) (c0_3 : Nat) (l0_3 : List (List Int)) (A0_4 : Option Addr) (c0_4 : Nat) (l0_4 : List (List (List Int))) (a0_5 : Int) (a1_0 : Int) (a1_1 : Int) (a1_2 : Int) (A1_3 : Option Addr) (c1_3 : Nat) (l1_3 : List (List Int)) (A1_4 : Option Addr) (c1_4 : Nat) (l1_4 : List (List (List Int))) (a1_5 : Int) (A2 : Option Addr) (c2 : Nat) (l2 : List Int) (r : Bool) (w : World) (hr0_3 : Kd.C (Kd.slice 3 (Kd.int .i64)) w A0_3 l0_3.length l0_3) (hc0_3 : l0_3.length ≤ c0_3) (hr0_4 : Kd.C (Kd.slice 26 (Kd.slice 3 (Kd.int .i64))) w A0_4 l0_4.length l0_4) (hc0_4 : l0_4.length ≤ c0_4) (hr1_3 : Kd.C (Kd.slice 3 (Kd.int .i64)) w A1_3 l1_3.length l1_3) (hc1_3 : l1_3.length ≤ c1_3) (hr1_4 : Kd.C (Kd.slice 26 (Kd.slice 3 (Kd.int .i64))) w A1_4 l1_4.length l1_4) (hc1_4 : l1_4.length ≤ c1_4) (hr2 : Kd.C (Kd.int .i64) w A2 l2.length l2) (hc2 : l2.length ≤ c2) (h : coppicerkeep_TurnerThen.f k a0_0 a0_1 a0_2 l0_3 l0_4 a0_5 a1_0 a1_1 a1_2 l1_3 l1_4 a1_5 l2 = some r) :
  Calls Try.prog 3 #[.agg #[.int .i64 a0_0,.int .i64 a0_1,.int .i64 a0_2,.slice A0_3 l0_3.length c0_3,.slice A0_4 l0_4.length c0_4,.int .i64 a0_5],.agg #[.int .i64 a1_0,.int .i64 a1_1,.int .i64 a1_2,.slice A1_3 l1_3.length c1_3,.slice A1_4 l1_4.length c1_4,.int .i64 a1_5],.slice A2 l2.length c2] w fun e w'=>e = .returned (.bool r) ∧ Below w.heap.size w w':=by
 have hu25:=Try.underlying25
 have HR0_3:=Aside0.mk hr0_3
 have HC0_3:=Aside0.mk hc0_3
 clear hr0_3 hc0_3
 have HR0_4:=Aside0.mk hr0_4
 have HC0_4:=Aside0.mk hc0_4
 clear hr0_4 hc0_4
 have HR1_3:=Aside0.mk hr1_3
 have HC1_3:=Aside0.mk hc1_3
 clear hr1_3 hc1_3
 have HR1_4:=Aside0.mk hr1_4
 have HC1_4:=Aside0.mk hc1_4
 clear hr1_4 hc1_4
 have HR2:=Aside0.mk hr2
 have HC2:=Aside0.mk hc2
 clear hr2 hc2
 have HB:=Aside0.mk (Below.refl w.heap.size w)
 have H : ((turner_Then.f k a0_0 a0_1 a0_2 l0_3 l0_4 a0_5 a1_0 a1_1 a1_2 l1_3 l1_4 a1_5).bind fun bt195=>((turner_Run.f k a0_0 a0_1 a0_2 l0_3 l0_4 a0_5 l2).bind fun bt207=>((coppicerkeep_turning.f k a0_0 a0_1 a0_2 l0_3 l0_4 a0_5).bind fun t211=>(if t211 = true then ((coppicerkeep_turning.f k a1_0 a1_1 a1_2 l1_3 l1_4 a1_5).bind fun t212=>(if t212 = true then ((coppicerref_WordCheck.f k a0_1 l2).bind fun t213=>(coppicerkeep_TurnerThen.j0 k l2 bt195.2.2.2.2.2.2 bt207.1 bt207.2 (t213 != 0) a1_0 a1_1 a1_2 l1_3 l1_4 a1_5 bt195.1 bt195.2.1 bt195.2.2.1 bt195.2.2.2.1 bt195.2.2.2.2.1 bt195.2.2.2.2.2.1)) else (coppicerkeep_TurnerThen.j0 k l2 bt195.2.2.2.2.2.2 bt207.1 bt207.2 true a1_0 a1_1 a1_2 l1_3 l1_4 a1_5 bt195.1 bt195.2.1 bt195.2.2.1 bt195.2.2.2.1 bt195.2.2.2.2.1 bt195.2.2.2.2.2.1))) else (coppicerkeep_TurnerThen.j0 k l2 bt195.2.2.2.2.2.2 bt207.1 bt207.2 true a1_0 a1_1 a1_2 l1_3 l1_4 a1_5 bt195.1 bt195.2.1 bt195.2.2.1 bt195.2.2.2.1 bt195.2.2.2.2.1 bt195.2.2.2.2.2.1))))) = some r:=h
 clear h
 replace H:=Option.bind_eq_some_iff.mp H
 obtain ⟨⟨t195,t196,t197,t198,t201,t204,t205⟩,A40,H⟩:=H
 replace H : ((turner_Run.f k a0_0 a0_1 a0_2 l0_3 l0_4 a0_5 l2).bind fun bt207=>((coppicerkeep_turning.f k a0_0 a0_1 a0_2 l0_3 l0_4 a0_5).bind fun t211=>(if t211 = true then ((coppicerkeep_turning.f k a1_0 a1_1 a1_2 l1_3 l1_4 a1_5).bind fun t212=>(if t212 = true then ((coppicerref_WordCheck.f k a0_1 l2).bind fun t213=>(coppicerkeep_TurnerThen.j0 k l2 t205 bt207.1 bt207.2 (t213 != 0) a1_0 a1_1 a1_2 l1_3 l1_4 a1_5 t195 t196 t197 t198 t201 t204)) else (coppicerkeep_TurnerThen.j0 k l2 t205 bt207.1 bt207.2 true a1_0 a1_1 a1_2 l1_3 l1_4 a1_5 t195 t196 t197 t198 t201 t204))) else (coppicerkeep_TurnerThen.j0 k l2 t205 bt207.1 bt207.2 true a1_0 a1_1 a1_2 l1_3 l1_4 a1_5 t195 t196 t197 t198 t201 t204)))) = some r:=H
 have A4:=Aside0.mk A40
 clear A40
 replace H:=Option.bind_eq_some_iff.mp H
 obtain ⟨⟨t207,t210⟩,A50,H⟩:=H
 replace H : ((coppicerkeep_turning.f k a0_0 a0_1 a0_2 l0_3 l0_4 a0_5).bind fun t211=>(if t211 = true then ((coppicerkeep_turning.f k a1_0 a1_1 a1_2 l1_3 l1_4 a1_5).bind fun t212=>(if t212 = true then ((coppicerref_WordCheck.f k a0_1 l2).bind fun t213=>(coppicerkeep_TurnerThen.j0 k l2 t205 t207 t210 (t213 != 0) a1_0 a1_1 a1_2 l1_3 l1_4 a1_5 t195 t196 t197 t198 t201 t204)) else (coppicerkeep_TurnerThen.j0 k l2 t205 t207 t210 true a1_0 a1_1 a1_2 l1_3 l1_4 a1_5 t195 t196 t197 t198 t201 t204))) else (coppicerkeep_TurnerThen.j0 k l2 t205 t207 t210 true a1_0 a1_1 a1_2 l1_3 l1_4 a1_5 t195 t196 t197 t198 t201 t204))) = some r:=H
 have A5:=Aside0.mk A50
 clear A50
 have HC6:=Aside0.mk H
 clear H
 go_enter Try.func3,Try.ntmps3
 go_upto_region 3 with (first|((with_reducible refine gate_dst (N:=3) rfl ?_);(try (refine gate_guard (by rfl) ?_;dsimp only));refine box_event ?hg (N:=3) ?hd (cs:=#[.int .i64 a0_0,.int .i64 a0_1,.int .i64 a0_2,.slice A0_3 l0_3.length c0_3,.slice A0_4 l0_4.length c0_4,.int .i64 a0_5]) (t:=25) ?hr ?_;(case hd=>rfl);(case hg=>rfl);(case hr=>first|(go_simp;done)|(go_simp;rfl));intro gb193 hg w7 hbox hb;have n0_:=Aside0.mk (below_step (by repeat (first|(with_reducible first|exact HB.out|apply below_alloc|apply pw_below_drewN|apply below_drew1)|exact HB.out)) hb);have n1_:=Aside0.mk (hbox);have n2_:=Aside0.mk ((by rw [hg];exact (below_size (by repeat (first|(with_reducible first|exact HB.out|apply below_alloc|apply pw_below_drewN|apply below_drew1)|exact HB.out))) : w.heap.size ≤ gb193));have n3_:=Aside0.mk ((by rw [hg];exact (below_size (by repeat (first|(with_reducible first|exact HB.out|apply below_alloc|apply pw_below_drewN|apply below_drew1)|exact HB.out))) : w.heap.size ≤ gb193));clear HB;have HB:=n0_;have BK193:=n1_;have GW193:=n2_;have GE193:=n3_;clear n0_ n1_ n2_ n3_;clear hb hbox hg)|((with_reducible refine gate_dst (N:=4) rfl ?_);(try (refine gate_guard (by rfl) ?_;dsimp only));refine box_event ?hg (N:=4) ?hd (cs:=#[.int .i64 a1_0,.int .i64 a1_1,.int .i64 a1_2,.slice A1_3 l1_3.length c1_3,.slice A1_4 l1_4.length c1_4,.int .i64 a1_5]) (t:=25) ?hr ?_;(case hd=>rfl);(case hg=>rfl);(case hr=>first|(go_simp;done)|(go_simp;rfl));intro gb194 hg w8 hbox hb;have n0_:=Aside0.mk (blk_below (g:=gb193) (o:=.cells #[.int .i64 a0_0,.int .i64 a0_1,.int .i64 a0_2,.slice A0_3 l0_3.length c0_3,.slice A0_4 l0_4.length c0_4,.int .i64 a0_5] 25 (0,0)) (by (with_reducible repeat (first|refine blk_drewN ?_ _|refine blk_drew ?_|refine blk_alloc ?_ _));exact BK193.out) hb);have n1_:=Aside0.mk (below_step (by repeat (first|(with_reducible first|exact HB.out|apply below_alloc|apply pw_below_drewN|apply below_drew1|refine below_set ?_ GE193.out)|exact HB.out)) hb);have n2_:=Aside0.mk (hbox);have n3_:=Aside0.mk ((by rw [hg];exact (below_size (by repeat (first|(with_reducible first|exact HB.out|apply below_alloc|apply pw_below_drewN|apply below_drew1|refine below_set ?_ GE193.out)|exact HB.out))) : w.heap.size ≤ gb194));have n4_:=Aside0.mk ((by rw [hg];exact (below_size (by repeat (first|(with_reducible first|exact HB.out|apply below_alloc|apply pw_below_drewN|apply below_drew1|refine below_set ?_ GE193.out)|exact HB.out))) : w.heap.size ≤ gb194));have n5_:=Aside0.mk ((by rw [hg];exact Nat.ne_of_lt (blk_lt (g:=gb193) (o:=.cells #[.int .i64 a0_0,.int .i64 a0_1,.int .i64 a0_2,.slice A0_3 l0_3.length c0_3,.slice A0_4 l0_4.length c0_4,.int .i64 a0_5] 25 (0,0)) (by (with_reducible repeat (first|refine blk_drewN ?_ _|refine blk_drew ?_|refine blk_alloc ?_ _));exact BK193.out)) : gb193 ≠ gb194));have n6_:=Aside0.mk ((by rw [hg];exact Nat.ne_of_gt (blk_lt (g:=gb193) (o:=.cells #[.int .i64 a0_0,.int .i64 a0_1,.int .i64 a0_2,.slice A0_3 l0_3.length c0_3,.slice A0_4 l0_4.length c0_4,.int .i64 a0_5] 25 (0,0)) (by (with_reducible repeat (first|refine blk_drewN ?_ _|refine blk_drew ?_|refine blk_alloc ?_ _));exact BK193.out)) : gb194 ≠ gb193));clear BK193;clear HB;have BK193:=n0_;have HB:=n1_;have BK194:=n2_;have GW194:=n3_;have GE194:=n4_;have NB193_194:=n5_;have NB194_193:=n6_;clear n0_ n1_ n2_ n3_ n4_ n5_ n6_;clear hb hbox hg;have hnb9:=NB193_194.out;have hnc9:=NB194_193.out;have hcz10_0 : w8.cell? ⟨gb193,0,none⟩ = some (.int .i64 a0_0):=(blk_cell BK193.out 0).trans rfl;have hcz10_1 : w8.cell? ⟨gb193,1,none⟩ = some (.int .i64 a0_1):=(blk_cell BK193.out 1).trans rfl;have hcz10_2 : w8.cell? ⟨gb193,2,none⟩ = some (.int .i64 a0_2):=(blk_cell BK193.out 2).trans rfl;have hcz10_3 : w8.cell? ⟨gb193,3,none⟩ = some (.slice A0_3 l0_3.length c0_3):=(blk_cell BK193.out 3).trans rfl;have hcz10_4 : w8.cell? ⟨gb193,4,none⟩ = some (.slice A0_4 l0_4.length c0_4):=(blk_cell BK193.out 4).trans rfl;have hcz10_5 : w8.cell? ⟨gb193,5,none⟩ = some (.int .i64 a0_5):=(blk_cell BK193.out 5).trans rfl;have hfz10_0:=blk_frozen BK193.out 0;have hfz10_1:=blk_frozen BK193.out 1;have hfz10_2:=blk_frozen BK193.out 2;have hfz10_3:=blk_frozen BK193.out 3;have hfz10_4:=blk_frozen BK193.out 4;have hfz10_5:=blk_frozen BK193.out 5;have hcz11_0 : w8.cell? ⟨gb194,0,none⟩ = some (.int .i64 a1_0):=(blk_cell BK194.out 0).trans rfl;have hcz11_1 : w8.cell? ⟨gb194,1,none⟩ = some (.int .i64 a1_1):=(blk_cell BK194.out 1).trans rfl;have hcz11_2 : w8.cell? ⟨gb194,2,none⟩ = some (.int .i64 a1_2):=(blk_cell BK194.out 2).trans rfl;have hcz11_3 : w8.cell? ⟨gb194,3,none⟩ = some (.slice A1_3 l1_3.length c1_3):=(blk_cell BK194.out 3).trans rfl;have hcz11_4 : w8.cell? ⟨gb194,4,none⟩ = some (.slice A1_4 l1_4.length c1_4):=(blk_cell BK194.out 4).trans rfl;have hcz11_5 : w8.cell? ⟨gb194,5,none⟩ = some (.int .i64 a1_5):=(blk_cell BK194.out 5).trans rfl;have hfz11_0:=blk_frozen BK194.out 0;have hfz11_1:=blk_frozen BK194.out 1;have hfz11_2:=blk_frozen BK194.out 2;have hfz11_3:=blk_frozen BK194.out 3;have hfz11_4:=blk_frozen BK194.out 4;have hfz11_5:=blk_frozen BK194.out 5)|((with_reducible refine gate_callee (f:=4) rfl ?_);refine goesL_ (some 18) rfl rfl Try.func4 (by kernel_rfl) rfl #[.agg #[.int .i64 a0_0,.int .i64 a0_1,.int .i64 a0_2,.slice A0_3 l0_3.length c0_3,.slice A0_4 l0_4.length c0_4,.int .i64 a0_5],.agg #[.int .i64 a1_0,.int .i64 a1_1,.int .i64 a1_2,.slice A1_3 l1_3.length c1_3,.slice A1_4 l1_4.length c1_4,.int .i64 a1_5]] rfl (by (try simp only [List.map_toArray,List.map_cons,List.map_nil]);first|done|rfl|(simp only [List.length_drop,List.length_take];rfl)) ?_;(with_reducible refine (turner_Then.calls k a0_0 a0_1 a0_2 _ _ l0_3 _ _ l0_4 a0_5 a1_0 a1_1 a1_2 _ _ l1_3 _ _ l1_4 a1_5 t195 t196 t197 t198 t201 t204 t205 _ ?side1 ?side2 ?side3 ?side4 ?side5 ?side6 ?side7 ?side8 A4.out).mono ?_);(case side1=>repeat (first|exact (Kd.C_below HR0_3.out HB.out)|(with_reducible refine Kd.C_alloc ?_ _)|(with_reducible refine Kd.C_drewN ?_ _)|(with_reducible refine Kd.C_drew ?_)));(case side2=>exact HC0_3.out);(case side3=>repeat (first|exact (Kd.C_below HR0_4.out HB.out)|(with_reducible refine Kd.C_alloc ?_ _)|(with_reducible refine Kd.C_drewN ?_ _)|(with_reducible refine Kd.C_drew ?_)));(case side4=>exact HC0_4.out);(case side5=>repeat (first|exact (Kd.C_below HR1_3.out HB.out)|(with_reducible refine Kd.C_alloc ?_ _)|(with_reducible refine Kd.C_drewN ?_ _)|(with_reducible refine Kd.C_drew ?_)));(case side6=>exact HC1_3.out);(case side7=>repeat (first|exact (Kd.C_below HR1_4.out HB.out)|(with_reducible refine Kd.C_alloc ?_ _)|(with_reducible refine Kd.C_drewN ?_ _)|(with_reducible refine Kd.C_drew ?_)));(case side8=>exact HC1_4.out);rintro e w12 ⟨v199,v202,rfl,ho0,ho1,hb⟩;refine ⟨_,rfl,?_⟩;have n0_:=Aside0.mk (Kd.N_lower (Kd.N_mono (ok':=fun k_=>some k_ ≠ (v202 : Value).ownBlock ∧ k_ ≠ gb193 ∧ k_ ≠ gb194) ho0 (fun k_ hk_=>⟨hk_.2,(Kd.freshB (g:=gb193) (o:=.cells #[.int .i64 a0_0,.int .i64 a0_1,.int .i64 a0_2,.slice A0_3 l0_3.length c0_3,.slice A0_4 l0_4.length c0_4,.int .i64 a0_5] 25 (0,0)) (by (with_reducible repeat (first|refine blk_drewN ?_ _|refine blk_drew ?_|refine blk_alloc ?_ _));exact BK193.out) k_ hk_.1),(Kd.freshB (g:=gb194) (o:=.cells #[.int .i64 a1_0,.int .i64 a1_1,.int .i64 a1_2,.slice A1_3 l1_3.length c1_3,.slice A1_4 l1_4.length c1_4,.int .i64 a1_5] 25 (0,0)) (by (with_reducible repeat (first|refine blk_drewN ?_ _|refine blk_drew ?_|refine blk_alloc ?_ _));exact BK194.out) k_ hk_.1)⟩)) (below_size (by repeat (first|(with_reducible first|exact HB.out|apply below_alloc|apply pw_below_drewN|apply below_drew1|refine below_set ?_ GE193.out|refine below_set ?_ GE194.out)|exact HB.out))));have n1_:=Aside0.mk (Kd.N_lower (Kd.N_mono (ok':=fun k_=>some k_ ≠ (v199 : Value).ownBlock ∧ k_ ≠ gb193 ∧ k_ ≠ gb194) ho1 (fun k_ hk_=>⟨hk_.2,(Kd.freshB (g:=gb193) (o:=.cells #[.int .i64 a0_0,.int .i64 a0_1,.int .i64 a0_2,.slice A0_3 l0_3.length c0_3,.slice A0_4 l0_4.length c0_4,.int .i64 a0_5] 25 (0,0)) (by (with_reducible repeat (first|refine blk_drewN ?_ _|refine blk_drew ?_|refine blk_alloc ?_ _));exact BK193.out) k_ hk_.1),(Kd.freshB (g:=gb194) (o:=.cells #[.int .i64 a1_0,.int .i64 a1_1,.int .i64 a1_2,.slice A1_3 l1_3.length c1_3,.slice A1_4 l1_4.length c1_4,.int .i64 a1_5] 25 (0,0)) (by (with_reducible repeat (first|refine blk_drewN ?_ _|refine blk_drew ?_|refine blk_alloc ?_ _));exact BK194.out) k_ hk_.1)⟩)) (below_size (by repeat (first|(with_reducible first|exact HB.out|apply below_alloc|apply pw_below_drewN|apply below_drew1|refine below_set ?_ GE193.out|refine below_set ?_ GE194.out)|exact HB.out))));have n2_:=Aside0.mk (blk_below (g:=gb193) (o:=.cells #[.int .i64 a0_0,.int .i64 a0_1,.int .i64 a0_2,.slice A0_3 l0_3.length c0_3,.slice A0_4 l0_4.length c0_4,.int .i64 a0_5] 25 (0,0)) (by (with_reducible repeat (first|refine blk_drewN ?_ _|refine blk_drew ?_|refine blk_alloc ?_ _));exact BK193.out) hb);have n3_:=Aside0.mk (blk_below (g:=gb194) (o:=.cells #[.int .i64 a1_0,.int .i64 a1_1,.int .i64 a1_2,.slice A1_3 l1_3.length c1_3,.slice A1_4 l1_4.length c1_4,.int .i64 a1_5] 25 (0,0)) (by (with_reducible repeat (first|refine blk_drewN ?_ _|refine blk_drew ?_|refine blk_alloc ?_ _));exact BK194.out) hb);have n4_:=Aside0.mk (below_step (by repeat (first|(with_reducible first|exact HB.out|apply below_alloc|apply pw_below_drewN|apply below_drew1|refine below_set ?_ GE193.out|refine below_set ?_ GE194.out)|exact HB.out)) hb);clear BK193;clear BK194;clear HB;have HO200:=n0_;have HO203:=n1_;have BK193:=n2_;have BK194:=n3_;have HB:=n4_;clear n0_ n1_ n2_ n3_ n4_;(try clear hb);(try clear hb2);(try clear hk);(try clear hi);(try clear ho0);(try clear ho1))|((with_reducible refine gate_dst (N:=7) rfl ?_);(try (refine gate_guard (by rfl) ?_;dsimp only));refine box_event ?hg (N:=7) ?hd (cs:=#[.int .i64 0,.int .i64 0,.int .i64 0,.slice none 0 0,.slice none 0 0,.int .i64 0]) (t:=25) ?hr ?_;(case hd=>rfl);(case hg=>rfl);(case hr=>first|(go_simp;done)|(go_simp;rfl));intro gb206 hg w13 hbox hb;have n0_:=Aside0.mk (Kd.N_below (Kd.N_elderB (by (with_reducible repeat (first|apply Kd.N_alloc|apply Kd.N_drewN|apply Kd.N_drew));exact HO200.out) gb206 (Nat.le_of_eq hg.symm)) hb);have n1_:=Aside0.mk (Kd.N_below (Kd.N_elderB (by (with_reducible repeat (first|apply Kd.N_alloc|apply Kd.N_drewN|apply Kd.N_drew));exact HO203.out) gb206 (Nat.le_of_eq hg.symm)) hb);have n2_:=Aside0.mk (blk_below (g:=gb193) (o:=.cells #[.int .i64 a0_0,.int .i64 a0_1,.int .i64 a0_2,.slice A0_3 l0_3.length c0_3,.slice A0_4 l0_4.length c0_4,.int .i64 a0_5] 25 (0,0)) (by (with_reducible repeat (first|refine blk_drewN ?_ _|refine blk_drew ?_|refine blk_alloc ?_ _));exact BK193.out) hb);have n3_:=Aside0.mk (blk_below (g:=gb194) (o:=.cells #[.int .i64 a1_0,.int .i64 a1_1,.int .i64 a1_2,.slice A1_3 l1_3.length c1_3,.slice A1_4 l1_4.length c1_4,.int .i64 a1_5] 25 (0,0)) (by (with_reducible repeat (first|refine blk_drewN ?_ _|refine blk_drew ?_|refine blk_alloc ?_ _));exact BK194.out) hb);have n4_:=Aside0.mk (below_step (by repeat (first|(with_reducible first|exact HB.out|apply below_alloc|apply pw_below_drewN|apply below_drew1|refine below_set ?_ GE193.out|refine below_set ?_ GE194.out)|exact HB.out)) hb);have n5_:=Aside0.mk (hbox);have n6_:=Aside0.mk ((by rw [hg];exact (below_size (by repeat (first|(with_reducible first|exact HB.out|apply below_alloc|apply pw_below_drewN|apply below_drew1|refine below_set ?_ GE193.out|refine below_set ?_ GE194.out)|exact HB.out))) : w.heap.size ≤ gb206));have n7_:=Aside0.mk ((by rw [hg];exact (below_size (by repeat (first|(with_reducible first|exact HB.out|apply below_alloc|apply pw_below_drewN|apply below_drew1|refine below_set ?_ GE193.out|refine below_set ?_ GE194.out)|exact HB.out))) : w.heap.size ≤ gb206));have n8_:=Aside0.mk ((by rw [hg];exact Nat.ne_of_lt (blk_lt (g:=gb193) (o:=.cells #[.int .i64 a0_0,.int .i64 a0_1,.int .i64 a0_2,.slice A0_3 l0_3.length c0_3,.slice A0_4 l0_4.length c0_4,.int .i64 a0_5] 25 (0,0)) (by (with_reducible repeat (first|refine blk_drewN ?_ _|refine blk_drew ?_|refine blk_alloc ?_ _));exact BK193.out)) : gb193 ≠ gb206));have n9_:=Aside0.mk ((by rw [hg];exact Nat.ne_of_gt (blk_lt (g:=gb193) (o:=.cells #[.int .i64 a0_0,.int .i64 a0_1,.int .i64 a0_2,.slice A0_3 l0_3.length c0_3,.slice A0_4 l0_4.length c0_4,.int .i64 a0_5] 25 (0,0)) (by (with_reducible repeat (first|refine blk_drewN ?_ _|refine blk_drew ?_|refine blk_alloc ?_ _));exact BK193.out)) : gb206 ≠ gb193));have n10_:=Aside0.mk ((by rw [hg];exact Nat.ne_of_lt (blk_lt (g:=gb194) (o:=.cells #[.int .i64 a1_0,.int .i64 a1_1,.int .i64 a1_2,.slice A1_3 l1_3.length c1_3,.slice A1_4 l1_4.length c1_4,.int .i64 a1_5] 25 (0,0)) (by (with_reducible repeat (first|refine blk_drewN ?_ _|refine blk_drew ?_|refine blk_alloc ?_ _));exact BK194.out)) : gb194 ≠ gb206));have n11_:=Aside0.mk ((by rw [hg];exact Nat.ne_of_gt (blk_lt (g:=gb194) (o:=.cells #[.int .i64 a1_0,.int .i64 a1_1,.int .i64 a1_2,.slice A1_3 l1_3.length c1_3,.slice A1_4 l1_4.length c1_4,.int .i64 a1_5] 25 (0,0)) (by (with_reducible repeat (first|refine blk_drewN ?_ _|refine blk_drew ?_|refine blk_alloc ?_ _));exact BK194.out)) : gb206 ≠ gb194));clear HO200;clear HO203;clear BK193;clear BK194;clear HB;have HO200:=n0_;have HO203:=n1_;have BK193:=n2_;have BK194:=n3_;have HB:=n4_;have BK206:=n5_;have GW206:=n6_;have GE206:=n7_;have NB193_206:=n8_;have NB206_193:=n9_;have NB194_206:=n10_;have NB206_194:=n11_;clear n0_ n1_ n2_ n3_ n4_ n5_ n6_ n7_ n8_ n9_ n10_ n11_;clear hb hbox hg;have hnb14:=NB206_193.out;have hnc14:=NB193_206.out;have hnb15:=NB206_194.out;have hnc15:=NB194_206.out;have hcz16_0 : w13.cell? ⟨gb206,0,none⟩ = some (.int .i64 0):=(blk_cell BK206.out 0).trans rfl;have hcz16_1 : w13.cell? ⟨gb206,1,none⟩ = some (.int .i64 0):=(blk_cell BK206.out 1).trans rfl;have hcz16_2 : w13.cell? ⟨gb206,2,none⟩ = some (.int .i64 0):=(blk_cell BK206.out 2).trans rfl;have hcz16_3 : w13.cell? ⟨gb206,3,none⟩ = some (.slice none 0 0):=(blk_cell BK206.out 3).trans rfl;have hcz16_4 : w13.cell? ⟨gb206,4,none⟩ = some (.slice none 0 0):=(blk_cell BK206.out 4).trans rfl;have hcz16_5 : w13.cell? ⟨gb206,5,none⟩ = some (.int .i64 0):=(blk_cell BK206.out 5).trans rfl;have hfz16_0:=blk_frozen BK206.out 0;have hfz16_1:=blk_frozen BK206.out 1;have hfz16_2:=blk_frozen BK206.out 2;have hfz16_3:=blk_frozen BK206.out 3;have hfz16_4:=blk_frozen BK206.out 4;have hfz16_5:=blk_frozen BK206.out 5;obtain ⟨Ao17,co17,eo17⟩:=Kd.N_slice HO200.out;subst eo17;obtain ⟨Ao18,co18,eo18⟩:=Kd.N_slice HO203.out;subst eo18;have hcz19_0 : w13.cell? ⟨gb193,0,none⟩ = some (.int .i64 a0_0):=(blk_cell BK193.out 0).trans rfl;have hcz19_1 : w13.cell? ⟨gb193,1,none⟩ = some (.int .i64 a0_1):=(blk_cell BK193.out 1).trans rfl;have hcz19_2 : w13.cell? ⟨gb193,2,none⟩ = some (.int .i64 a0_2):=(blk_cell BK193.out 2).trans rfl;have hcz19_3 : w13.cell? ⟨gb193,3,none⟩ = some (.slice A0_3 l0_3.length c0_3):=(blk_cell BK193.out 3).trans rfl;have hcz19_4 : w13.cell? ⟨gb193,4,none⟩ = some (.slice A0_4 l0_4.length c0_4):=(blk_cell BK193.out 4).trans rfl;have hcz19_5 : w13.cell? ⟨gb193,5,none⟩ = some (.int .i64 a0_5):=(blk_cell BK193.out 5).trans rfl;have hfz19_0:=blk_frozen BK193.out 0;have hfz19_1:=blk_frozen BK193.out 1;have hfz19_2:=blk_frozen BK193.out 2;have hfz19_3:=blk_frozen BK193.out 3;have hfz19_4:=blk_frozen BK193.out 4;have hfz19_5:=blk_frozen BK193.out 5)|((with_reducible refine gate_callee (f:=5) rfl ?_);refine goesL_ (some 24) rfl rfl Try.func5 (by kernel_rfl) rfl #[.agg #[.int .i64 a0_0,.int .i64 a0_1,.int .i64 a0_2,.slice A0_3 l0_3.length c0_3,.slice A0_4 l0_4.length c0_4,.int .i64 a0_5],.slice A2 l2.length c2] rfl (by (try simp only [List.map_toArray,List.map_cons,List.map_nil]);first|done|rfl|(simp only [List.length_drop,List.length_take];rfl)) ?_;(with_reducible refine (turner_Run.calls k a0_0 a0_1 a0_2 _ _ l0_3 _ _ l0_4 a0_5 _ _ l2 t207 t210 _ ?side1 ?side2 ?side3 ?side4 ?side5 ?side6 A5.out).mono ?_);(case side1=>exact Kd.C_below HR0_3.out (by repeat (first|(with_reducible first|exact HB.out|apply below_alloc|apply pw_below_drewN|apply below_drew1|refine below_set ?_ GE193.out|refine below_set ?_ GE194.out|refine below_set ?_ GE206.out)|exact HB.out)));(case side2=>exact HC0_3.out);(case side3=>exact Kd.C_below HR0_4.out (by repeat (first|(with_reducible first|exact HB.out|apply below_alloc|apply pw_below_drewN|apply below_drew1|refine below_set ?_ GE193.out|refine below_set ?_ GE194.out|refine below_set ?_ GE206.out)|exact HB.out)));(case side4=>exact HC0_4.out);(case side5=>exact Kd.C_below HR2.out (by repeat (first|(with_reducible first|exact HB.out|apply below_alloc|apply pw_below_drewN|apply below_drew1|refine below_set ?_ GE193.out|refine below_set ?_ GE194.out|refine below_set ?_ GE206.out)|exact HB.out)));(case side6=>exact HC2.out);rintro e w20 ⟨v208,rfl,ho0,hb⟩;refine ⟨_,rfl,?_⟩;have n0_:=Aside0.mk (Kd.N_elder' (by (with_reducible repeat (first|apply Kd.N_alloc|apply Kd.N_drewN|apply Kd.N_drew));exact (Kd.N_mono (Kd.N_far (p:=⟨gb206,5,none⟩) (Kd.N_far (p:=⟨gb206,4,none⟩) (Kd.N_far (p:=⟨gb206,3,none⟩) (Kd.N_far (p:=⟨gb206,2,none⟩) (Kd.N_far (p:=⟨gb206,1,none⟩) (Kd.N_far (p:=⟨gb206,0,none⟩) (Kd.N_mono HO200.out (fun k_ hk=>(⟨hk,hk.2⟩ : _ ∧ k_ ≠ gb206))) (fun _ hk=>hk.2) (.int .i64 t195)) (fun _ hk=>hk.2) (.int .i64 t196)) (fun _ hk=>hk.2) (.int .i64 t197)) (fun _ hk=>hk.2) (.slice Ao17 t198.length co17)) (fun _ hk=>hk.2) (.slice Ao18 t201.length co18)) (fun _ hk=>hk.2) (.int .i64 t204)) (fun _ h_=>h_.1))) (Kd.R_base ho0) hb);have n1_:=Aside0.mk (Kd.N_elder' (by (with_reducible repeat (first|apply Kd.N_alloc|apply Kd.N_drewN|apply Kd.N_drew));exact (Kd.N_mono (Kd.N_far (p:=⟨gb206,5,none⟩) (Kd.N_far (p:=⟨gb206,4,none⟩) (Kd.N_far (p:=⟨gb206,3,none⟩) (Kd.N_far (p:=⟨gb206,2,none⟩) (Kd.N_far (p:=⟨gb206,1,none⟩) (Kd.N_far (p:=⟨gb206,0,none⟩) (Kd.N_mono HO203.out (fun k_ hk=>(⟨hk,hk.2⟩ : _ ∧ k_ ≠ gb206))) (fun _ hk=>hk.2) (.int .i64 t195)) (fun _ hk=>hk.2) (.int .i64 t196)) (fun _ hk=>hk.2) (.int .i64 t197)) (fun _ hk=>hk.2) (.slice Ao17 t198.length co17)) (fun _ hk=>hk.2) (.slice Ao18 t201.length co18)) (fun _ hk=>hk.2) (.int .i64 t204)) (fun _ h_=>h_.1))) (Kd.R_base ho0) hb);have n2_:=Aside0.mk (Kd.R_lower ho0 (below_size (by repeat (first|(with_reducible first|exact HB.out|apply below_alloc|apply pw_below_drewN|apply below_drew1|refine below_set ?_ GE193.out|refine below_set ?_ GE194.out|refine below_set ?_ GE206.out)|exact HB.out))));have n3_:=Aside0.mk (blk_below (g:=gb193) (o:=.cells #[.int .i64 a0_0,.int .i64 a0_1,.int .i64 a0_2,.slice A0_3 l0_3.length c0_3,.slice A0_4 l0_4.length c0_4,.int .i64 a0_5] 25 (0,0)) (by (with_reducible repeat (first|refine blk_drewN ?_ _|refine blk_drew ?_|refine blk_alloc ?_ _));refine blk_far ?_ NB193_206.out _;(with_reducible repeat (first|refine blk_drewN ?_ _|refine blk_drew ?_|refine blk_alloc ?_ _));refine blk_far ?_ NB193_206.out _;(with_reducible repeat (first|refine blk_drewN ?_ _|refine blk_drew ?_|refine blk_alloc ?_ _));refine blk_far ?_ NB193_206.out _;(with_reducible repeat (first|refine blk_drewN ?_ _|refine blk_drew ?_|refine blk_alloc ?_ _));refine blk_far ?_ NB193_206.out _;(with_reducible repeat (first|refine blk_drewN ?_ _|refine blk_drew ?_|refine blk_alloc ?_ _));refine blk_far ?_ NB193_206.out _;(with_reducible repeat (first|refine blk_drewN ?_ _|refine blk_drew ?_|refine blk_alloc ?_ _));refine blk_far ?_ NB193_206.out _;(with_reducible repeat (first|refine blk_drewN ?_ _|refine blk_drew ?_|refine blk_alloc ?_ _));exact BK193.out) hb);have n4_:=Aside0.mk (blk_below (g:=gb194) (o:=.cells #[.int .i64 a1_0,.int .i64 a1_1,.int .i64 a1_2,.slice A1_3 l1_3.length c1_3,.slice A1_4 l1_4.length c1_4,.int .i64 a1_5] 25 (0,0)) (by (with_reducible repeat (first|refine blk_drewN ?_ _|refine blk_drew ?_|refine blk_alloc ?_ _));refine blk_far ?_ NB194_206.out _;(with_reducible repeat (first|refine blk_drewN ?_ _|refine blk_drew ?_|refine blk_alloc ?_ _));refine blk_far ?_ NB194_206.out _;(with_reducible repeat (first|refine blk_drewN ?_ _|refine blk_drew ?_|refine blk_alloc ?_ _));refine blk_far ?_ NB194_206.out _;(with_reducible repeat (first|refine blk_drewN ?_ _|refine blk_drew ?_|refine blk_alloc ?_ _));refine blk_far ?_ NB194_206.out _;(with_reducible repeat (first|refine blk_drewN ?_ _|refine blk_drew ?_|refine blk_alloc ?_ _));refine blk_far ?_ NB194_206.out _;(with_reducible repeat (first|refine blk_drewN ?_ _|refine blk_drew ?_|refine blk_alloc ?_ _));refine blk_far ?_ NB194_206.out _;(with_reducible repeat (first|refine blk_drewN ?_ _|refine blk_drew ?_|refine blk_alloc ?_ _));exact BK194.out) hb);have n5_:=Aside0.mk (blk_below (g:=gb206) (o:=.cells #[.int .i64 t195,.int .i64 t196,.int .i64 t197,.slice Ao17 t198.length co17,.slice Ao18 t201.length co18,.int .i64 t204] 25 (0,0)) (by (with_reducible repeat (first|refine blk_drewN ?_ _|refine blk_drew ?_|refine blk_alloc ?_ _));refine blk_put (cs:=#[.int .i64 t195,.int .i64 t196,.int .i64 t197,.slice Ao17 t198.length co17,.slice Ao18 t201.length co18,.int .i64 0]) ?_ 5 _ rfl;(with_reducible repeat (first|refine blk_drewN ?_ _|refine blk_drew ?_|refine blk_alloc ?_ _));refine blk_put (cs:=#[.int .i64 t195,.int .i64 t196,.int .i64 t197,.slice Ao17 t198.length co17,.slice none 0 0,.int .i64 0]) ?_ 4 _ rfl;(with_reducible repeat (first|refine blk_drewN ?_ _|refine blk_drew ?_|refine blk_alloc ?_ _));refine blk_put (cs:=#[.int .i64 t195,.int .i64 t196,.int .i64 t197,.slice none 0 0,.slice none 0 0,.int .i64 0]) ?_ 3 _ rfl;(with_reducible repeat (first|refine blk_drewN ?_ _|refine blk_drew ?_|refine blk_alloc ?_ _));refine blk_put (cs:=#[.int .i64 t195,.int .i64 t196,.int .i64 0,.slice none 0 0,.slice none 0 0,.int .i64 0]) ?_ 2 _ rfl;(with_reducible repeat (first|refine blk_drewN ?_ _|refine blk_drew ?_|refine blk_alloc ?_ _));refine blk_put (cs:=#[.int .i64 t195,.int .i64 0,.int .i64 0,.slice none 0 0,.slice none 0 0,.int .i64 0]) ?_ 1 _ rfl;(with_reducible repeat (first|refine blk_drewN ?_ _|refine blk_drew ?_|refine blk_alloc ?_ _));refine blk_put (cs:=#[.int .i64 0,.int .i64 0,.int .i64 0,.slice none 0 0,.slice none 0 0,.int .i64 0]) ?_ 0 _ rfl;(with_reducible repeat (first|refine blk_drewN ?_ _|refine blk_drew ?_|refine blk_alloc ?_ _));exact BK206.out) hb);have n6_:=Aside0.mk (below_step (by repeat (first|(with_reducible first|exact HB.out|apply below_alloc|apply pw_below_drewN|apply below_drew1|refine below_set ?_ GE193.out|refine below_set ?_ GE194.out|refine below_set ?_ GE206.out)|exact HB.out)) hb);clear HO200;clear HO203;clear BK193;clear BK194;clear BK206;clear HB;have HO200:=n0_;have HO203:=n1_;have HO209:=n2_;have BK193:=n3_;have BK194:=n4_;have BK206:=n5_;have HB:=n6_;clear n0_ n1_ n2_ n3_ n4_ n5_ n6_;(try clear hb);(try clear hb2);(try clear hk);(try clear hi);(try clear ho0)))
 (try simp only [Act.put,List.setIfInBounds_toArray,List.set_cons_zero,List.set_cons_succ])
 go_cut [41] (fun v41 wc=>∃ (kq : Nat) (x41_5 : Bool),v41 = .bool x41_5 ∧ Aside0 (coppicerkeep_TurnerThen.j0 kq l2 t205 t207 t210 x41_5 a1_0 a1_1 a1_2 l1_3 l1_4 a1_5 t195 t196 t197 t198 t201 t204 = some r) ∧ Aside0 (kq ≤ k) ∧ Aside0 (Kd.R (Kd.int .i64) 3 wc w.heap.size (fun _=>True) v208 t207) ∧ Aside0 (Kd.N (Kd.slice 3 (Kd.int .i64)) 26 wc w.heap.size (fun k_=>some k_ ≠ (v208 : Value).ownBlock ∧ some k_ ≠ ((.slice Ao18 t201.length co18) : Value).ownBlock ∧ k_ ≠ gb193 ∧ k_ ≠ gb194 ∧ k_ ≠ gb206) (.slice Ao17 t198.length co17) t198) ∧ Aside0 (Kd.N (Kd.slice 26 (Kd.slice 3 (Kd.int .i64))) 22 wc w.heap.size (fun k_=>some k_ ≠ (v208 : Value).ownBlock ∧ some k_ ≠ ((.slice Ao17 t198.length co17) : Value).ownBlock ∧ k_ ≠ gb193 ∧ k_ ≠ gb194 ∧ k_ ≠ gb206) (.slice Ao18 t201.length co18) t201) ∧ Aside0 (wc.heap[gb193]? = some (.cells #[.int .i64 a0_0,.int .i64 a0_1,.int .i64 a0_2,(.slice A0_3 l0_3.length c0_3),(.slice A0_4 l0_4.length c0_4),.int .i64 a0_5] 25 (0,0))) ∧ Aside0 (wc.heap[gb194]? = some (.cells #[.int .i64 a1_0,.int .i64 a1_1,.int .i64 a1_2,(.slice A1_3 l1_3.length c1_3),(.slice A1_4 l1_4.length c1_4),.int .i64 a1_5] 25 (0,0))) ∧ Aside0 (wc.heap[gb206]? = some (.cells #[.int .i64 t195,.int .i64 t196,.int .i64 t197,(.slice Ao17 t198.length co17),(.slice Ao18 t201.length co18),.int .i64 t204] 25 (0,0))) ∧ Aside0 (Below w.heap.size w wc))
 case first =>
  have H:=HC6.out
  clear HC6
  replace H:=Option.bind_eq_some_iff.mp H
  obtain ⟨t211,A210,H⟩:=H
  replace H : (if t211 = true then ((coppicerkeep_turning.f k a1_0 a1_1 a1_2 l1_3 l1_4 a1_5).bind fun t212=>(if t212 = true then ((coppicerref_WordCheck.f k a0_1 l2).bind fun t213=>(coppicerkeep_TurnerThen.j0 k l2 t205 t207 t210 (t213 != 0) a1_0 a1_1 a1_2 l1_3 l1_4 a1_5 t195 t196 t197 t198 t201 t204)) else (coppicerkeep_TurnerThen.j0 k l2 t205 t207 t210 true a1_0 a1_1 a1_2 l1_3 l1_4 a1_5 t195 t196 t197 t198 t201 t204))) else (coppicerkeep_TurnerThen.j0 k l2 t205 t207 t210 true a1_0 a1_1 a1_2 l1_3 l1_4 a1_5 t195 t196 t197 t198 t201 t204)) = some r:=H
  have A21:=Aside0.mk A210
  clear A210
  by_cases c22 : t211 = true
  ·subst c22
   have H1 : ((coppicerkeep_turning.f k a1_0 a1_1 a1_2 l1_3 l1_4 a1_5).bind fun t212=>(if t212 = true then ((coppicerref_WordCheck.f k a0_1 l2).bind fun t213=>(coppicerkeep_TurnerThen.j0 k l2 t205 t207 t210 (t213 != 0) a1_0 a1_1 a1_2 l1_3 l1_4 a1_5 t195 t196 t197 t198 t201 t204)) else (coppicerkeep_TurnerThen.j0 k l2 t205 t207 t210 true a1_0 a1_1 a1_2 l1_3 l1_4 a1_5 t195 t196 t197 t198 t201 t204))) = some r:=by rw [if_pos rfl] at H;exact H
   clear H
   have H:=H1
   clear H1
   replace H:=Option.bind_eq_some_iff.mp H
   obtain ⟨t212,A230,H⟩:=H
   replace H : (if t212 = true then ((coppicerref_WordCheck.f k a0_1 l2).bind fun t213=>(coppicerkeep_TurnerThen.j0 k l2 t205 t207 t210 (t213 != 0) a1_0 a1_1 a1_2 l1_3 l1_4 a1_5 t195 t196 t197 t198 t201 t204)) else (coppicerkeep_TurnerThen.j0 k l2 t205 t207 t210 true a1_0 a1_1 a1_2 l1_3 l1_4 a1_5 t195 t196 t197 t198 t201 t204)) = some r:=H
   have A23:=Aside0.mk A230
   clear A230
   by_cases c24 : t212 = true
   ·subst c24
    have H1 : ((coppicerref_WordCheck.f k a0_1 l2).bind fun t213=>(coppicerkeep_TurnerThen.j0 k l2 t205 t207 t210 (t213 != 0) a1_0 a1_1 a1_2 l1_3 l1_4 a1_5 t195 t196 t197 t198 t201 t204)) = some r:=by rw [if_pos rfl] at H;exact H
    clear H
    have H:=H1
    clear H1
    replace H:=Option.bind_eq_some_iff.mp H
    obtain ⟨t213,A250,H⟩:=H
    replace H : (coppicerkeep_TurnerThen.j0 k l2 t205 t207 t210 (t213 != 0) a1_0 a1_1 a1_2 l1_3 l1_4 a1_5 t195 t196 t197 t198 t201 t204) = some r:=H
    have A25:=Aside0.mk A250
    clear A250
    have H':=Aside0.mk H
    clear H
    have hnb26:=NB193_194.out
    have hnc26:=NB194_193.out
    have hnb27:=NB193_206.out
    have hnc27:=NB206_193.out
    have hcz28_0 : w20.cell? ⟨gb193,0,none⟩ = some (.int .i64 a0_0):=(blk_cell BK193.out 0).trans rfl
    have hcz28_1 : w20.cell? ⟨gb193,1,none⟩ = some (.int .i64 a0_1):=(blk_cell BK193.out 1).trans rfl
    have hcz28_2 : w20.cell? ⟨gb193,2,none⟩ = some (.int .i64 a0_2):=(blk_cell BK193.out 2).trans rfl
    have hcz28_3 : w20.cell? ⟨gb193,3,none⟩ = some (.slice A0_3 l0_3.length c0_3):=(blk_cell BK193.out 3).trans rfl
    have hcz28_4 : w20.cell? ⟨gb193,4,none⟩ = some (.slice A0_4 l0_4.length c0_4):=(blk_cell BK193.out 4).trans rfl
    have hcz28_5 : w20.cell? ⟨gb193,5,none⟩ = some (.int .i64 a0_5):=(blk_cell BK193.out 5).trans rfl
    have hfz28_0:=blk_frozen BK193.out 0
    have hfz28_1:=blk_frozen BK193.out 1
    have hfz28_2:=blk_frozen BK193.out 2
    have hfz28_3:=blk_frozen BK193.out 3
    have hfz28_4:=blk_frozen BK193.out 4
    have hfz28_5:=blk_frozen BK193.out 5
    go_wp2_with (first|((with_reducible refine gate_callee (f:=6) rfl ?_);refine goesL_ (some 28) rfl rfl Try.func6 (by kernel_rfl) rfl #[.agg #[.int .i64 a0_0,.int .i64 a0_1,.int .i64 a0_2,.slice A0_3 l0_3.length c0_3,.slice A0_4 l0_4.length c0_4,.int .i64 a0_5]] rfl (by (try simp only [List.map_toArray,List.map_cons,List.map_nil]);first|done|rfl|(simp only [List.length_drop,List.length_take];rfl)) ?_;(with_reducible refine (coppicerkeep_turning.calls k a0_0 a0_1 a0_2 _ _ l0_3 _ _ l0_4 a0_5 true _ ?side1 ?side2 ?side3 ?side4 A21.out).mono ?_);(case side1=>repeat (first|exact (Kd.C_below HR0_3.out HB.out)|(with_reducible refine Kd.C_alloc ?_ _)|(with_reducible refine Kd.C_drewN ?_ _)|(with_reducible refine Kd.C_drew ?_)));(case side2=>exact HC0_3.out);(case side3=>repeat (first|exact (Kd.C_below HR0_4.out HB.out)|(with_reducible refine Kd.C_alloc ?_ _)|(with_reducible refine Kd.C_drewN ?_ _)|(with_reducible refine Kd.C_drew ?_)));(case side4=>exact HC0_4.out);rintro e w29 ⟨rfl,hb⟩;refine ⟨_,rfl,?_⟩;have n0_:=Aside0.mk (Kd.N_below (by (with_reducible repeat (first|apply Kd.N_alloc|apply Kd.N_drewN|apply Kd.N_drew));exact HO200.out) hb);have n1_:=Aside0.mk (Kd.N_below (by (with_reducible repeat (first|apply Kd.N_alloc|apply Kd.N_drewN|apply Kd.N_drew));exact HO203.out) hb);have n2_:=Aside0.mk (Kd.R_below (by (with_reducible repeat (first|apply Kd.R_alloc|apply Kd.R_drewN|apply Kd.R_drew));exact HO209.out) hb);have n3_:=Aside0.mk (blk_below (g:=gb193) (o:=.cells #[.int .i64 a0_0,.int .i64 a0_1,.int .i64 a0_2,.slice A0_3 l0_3.length c0_3,.slice A0_4 l0_4.length c0_4,.int .i64 a0_5] 25 (0,0)) (by (with_reducible repeat (first|refine blk_drewN ?_ _|refine blk_drew ?_|refine blk_alloc ?_ _));exact BK193.out) hb);have n4_:=Aside0.mk (blk_below (g:=gb194) (o:=.cells #[.int .i64 a1_0,.int .i64 a1_1,.int .i64 a1_2,.slice A1_3 l1_3.length c1_3,.slice A1_4 l1_4.length c1_4,.int .i64 a1_5] 25 (0,0)) (by (with_reducible repeat (first|refine blk_drewN ?_ _|refine blk_drew ?_|refine blk_alloc ?_ _));exact BK194.out) hb);have n5_:=Aside0.mk (blk_below (g:=gb206) (o:=.cells #[.int .i64 t195,.int .i64 t196,.int .i64 t197,.slice Ao17 t198.length co17,.slice Ao18 t201.length co18,.int .i64 t204] 25 (0,0)) (by (with_reducible repeat (first|refine blk_drewN ?_ _|refine blk_drew ?_|refine blk_alloc ?_ _));exact BK206.out) hb);have n6_:=Aside0.mk (below_step (by repeat (first|(with_reducible first|exact HB.out|apply below_alloc|apply pw_below_drewN|apply below_drew1|refine below_set ?_ GE193.out|refine below_set ?_ GE194.out|refine below_set ?_ GE206.out)|exact HB.out)) hb);clear HO200;clear HO203;clear HO209;clear BK193;clear BK194;clear BK206;clear HB;have HO200:=n0_;have HO203:=n1_;have HO209:=n2_;have BK193:=n3_;have BK194:=n4_;have BK206:=n5_;have HB:=n6_;clear n0_ n1_ n2_ n3_ n4_ n5_ n6_;(try clear hb);(try clear hb2);(try clear hk);(try clear hi);have hnb30:=NB194_206.out;have hnc30:=NB206_194.out;have hcz31_0 : w29.cell? ⟨gb194,0,none⟩ = some (.int .i64 a1_0):=(blk_cell BK194.out 0).trans rfl;have hcz31_1 : w29.cell? ⟨gb194,1,none⟩ = some (.int .i64 a1_1):=(blk_cell BK194.out 1).trans rfl;have hcz31_2 : w29.cell? ⟨gb194,2,none⟩ = some (.int .i64 a1_2):=(blk_cell BK194.out 2).trans rfl;have hcz31_3 : w29.cell? ⟨gb194,3,none⟩ = some (.slice A1_3 l1_3.length c1_3):=(blk_cell BK194.out 3).trans rfl;have hcz31_4 : w29.cell? ⟨gb194,4,none⟩ = some (.slice A1_4 l1_4.length c1_4):=(blk_cell BK194.out 4).trans rfl;have hcz31_5 : w29.cell? ⟨gb194,5,none⟩ = some (.int .i64 a1_5):=(blk_cell BK194.out 5).trans rfl;have hfz31_0:=blk_frozen BK194.out 0;have hfz31_1:=blk_frozen BK194.out 1;have hfz31_2:=blk_frozen BK194.out 2;have hfz31_3:=blk_frozen BK194.out 3;have hfz31_4:=blk_frozen BK194.out 4;have hfz31_5:=blk_frozen BK194.out 5)|(go_at_call 6;(with_reducible refine (coppicerkeep_turning.calls k a1_0 a1_1 a1_2 _ _ l1_3 _ _ l1_4 a1_5 true _ ?side1 ?side2 ?side3 ?side4 A23.out).mono ?_);(case side1=>repeat (first|exact (Kd.C_below HR1_3.out HB.out)|(with_reducible refine Kd.C_alloc ?_ _)|(with_reducible refine Kd.C_drewN ?_ _)|(with_reducible refine Kd.C_drew ?_)));(case side2=>exact HC1_3.out);(case side3=>repeat (first|exact (Kd.C_below HR1_4.out HB.out)|(with_reducible refine Kd.C_alloc ?_ _)|(with_reducible refine Kd.C_drewN ?_ _)|(with_reducible refine Kd.C_drew ?_)));(case side4=>exact HC1_4.out);rintro e w32 ⟨rfl,hb⟩;have n0_:=Aside0.mk (Kd.N_below (by (with_reducible repeat (first|apply Kd.N_alloc|apply Kd.N_drewN|apply Kd.N_drew));exact HO200.out) hb);have n1_:=Aside0.mk (Kd.N_below (by (with_reducible repeat (first|apply Kd.N_alloc|apply Kd.N_drewN|apply Kd.N_drew));exact HO203.out) hb);have n2_:=Aside0.mk (Kd.R_below (by (with_reducible repeat (first|apply Kd.R_alloc|apply Kd.R_drewN|apply Kd.R_drew));exact HO209.out) hb);have n3_:=Aside0.mk (blk_below (g:=gb193) (o:=.cells #[.int .i64 a0_0,.int .i64 a0_1,.int .i64 a0_2,.slice A0_3 l0_3.length c0_3,.slice A0_4 l0_4.length c0_4,.int .i64 a0_5] 25 (0,0)) (by (with_reducible repeat (first|refine blk_drewN ?_ _|refine blk_drew ?_|refine blk_alloc ?_ _));exact BK193.out) hb);have n4_:=Aside0.mk (blk_below (g:=gb194) (o:=.cells #[.int .i64 a1_0,.int .i64 a1_1,.int .i64 a1_2,.slice A1_3 l1_3.length c1_3,.slice A1_4 l1_4.length c1_4,.int .i64 a1_5] 25 (0,0)) (by (with_reducible repeat (first|refine blk_drewN ?_ _|refine blk_drew ?_|refine blk_alloc ?_ _));exact BK194.out) hb);have n5_:=Aside0.mk (blk_below (g:=gb206) (o:=.cells #[.int .i64 t195,.int .i64 t196,.int .i64 t197,.slice Ao17 t198.length co17,.slice Ao18 t201.length co18,.int .i64 t204] 25 (0,0)) (by (with_reducible repeat (first|refine blk_drewN ?_ _|refine blk_drew ?_|refine blk_alloc ?_ _));exact BK206.out) hb);have n6_:=Aside0.mk (below_step (by repeat (first|(with_reducible first|exact HB.out|apply below_alloc|apply pw_below_drewN|apply below_drew1|refine below_set ?_ GE193.out|refine below_set ?_ GE194.out|refine below_set ?_ GE206.out)|exact HB.out)) hb);clear HO200;clear HO203;clear HO209;clear BK193;clear BK194;clear BK206;clear HB;have HO200:=n0_;have HO203:=n1_;have HO209:=n2_;have BK193:=n3_;have BK194:=n4_;have BK206:=n5_;have HB:=n6_;clear n0_ n1_ n2_ n3_ n4_ n5_ n6_;(try clear hb);(try clear hb2);(try clear hk);(try clear hi);have hcz33_0 : w32.cell? ⟨gb193,0,none⟩ = some (.int .i64 a0_0):=(blk_cell BK193.out 0).trans rfl;have hcz33_1 : w32.cell? ⟨gb193,1,none⟩ = some (.int .i64 a0_1):=(blk_cell BK193.out 1).trans rfl;have hcz33_2 : w32.cell? ⟨gb193,2,none⟩ = some (.int .i64 a0_2):=(blk_cell BK193.out 2).trans rfl;have hcz33_3 : w32.cell? ⟨gb193,3,none⟩ = some (.slice A0_3 l0_3.length c0_3):=(blk_cell BK193.out 3).trans rfl;have hcz33_4 : w32.cell? ⟨gb193,4,none⟩ = some (.slice A0_4 l0_4.length c0_4):=(blk_cell BK193.out 4).trans rfl;have hcz33_5 : w32.cell? ⟨gb193,5,none⟩ = some (.int .i64 a0_5):=(blk_cell BK193.out 5).trans rfl;have hfz33_0:=blk_frozen BK193.out 0;have hfz33_1:=blk_frozen BK193.out 1;have hfz33_2:=blk_frozen BK193.out 2;have hfz33_3:=blk_frozen BK193.out 3;have hfz33_4:=blk_frozen BK193.out 4;have hfz33_5:=blk_frozen BK193.out 5)|(go_at_call 7;(with_reducible refine (coppicerref_WordCheck.calls k a0_1 _ _ l2 t213 _ ?side1 ?side2 A25.out).mono ?_);(case side1=>repeat (first|exact (Kd.C_below HR2.out HB.out)|(with_reducible refine Kd.C_alloc ?_ _)|(with_reducible refine Kd.C_drewN ?_ _)|(with_reducible refine Kd.C_drew ?_)));(case side2=>exact HC2.out);rintro e w' ⟨rfl,⟨nd,rfl⟩⟩))
    go_meet
    case rel=>exact ⟨_,((t213 != 0)),(by first|rfl|(simp;done)|(simp [*];done)),H',⟨by first|omega|exact Nat.le_refl _⟩,⟨by (with_reducible repeat (first|apply Kd.R_alloc|apply Kd.R_drewN|apply Kd.R_drew));exact HO209.out⟩,⟨by (with_reducible repeat (first|apply Kd.N_alloc|apply Kd.N_drewN|apply Kd.N_drew));exact Kd.N_mono HO200.out (fun _ hk=>⟨hk.2,⟨hk.1.1.1,⟨hk.1.1.2.1,⟨hk.1.1.2.2,hk.1.2⟩⟩⟩⟩)⟩,⟨by (with_reducible repeat (first|apply Kd.N_alloc|apply Kd.N_drewN|apply Kd.N_drew));exact Kd.N_mono HO203.out (fun _ hk=>⟨hk.2,⟨hk.1.1.1,⟨hk.1.1.2.1,⟨hk.1.1.2.2,hk.1.2⟩⟩⟩⟩)⟩,⟨by (with_reducible repeat (first|refine blk_drewN ?_ _|refine blk_drew ?_|refine blk_alloc ?_ _));exact BK193.out⟩,⟨by (with_reducible repeat (first|refine blk_drewN ?_ _|refine blk_drew ?_|refine blk_alloc ?_ _));exact BK194.out⟩,⟨by (with_reducible repeat (first|refine blk_drewN ?_ _|refine blk_drew ?_|refine blk_alloc ?_ _));exact BK206.out⟩,⟨by repeat (first|(with_reducible first|exact HB.out|apply below_alloc|apply pw_below_drewN|apply below_drew1|refine below_set ?_ GE193.out|refine below_set ?_ GE194.out|refine below_set ?_ GE206.out)|exact HB.out)⟩⟩
   ·replace c24:=Bool.eq_false_iff.mpr c24
    subst c24
    have H1 : (coppicerkeep_TurnerThen.j0 k l2 t205 t207 t210 true a1_0 a1_1 a1_2 l1_3 l1_4 a1_5 t195 t196 t197 t198 t201 t204) = some r:=by rw [if_neg (show ¬ (false = true) by decide)] at H;exact H
    clear H
    have H:=H1
    clear H1
    have H':=Aside0.mk H
    clear H
    have hnb34:=NB193_194.out
    have hnc34:=NB194_193.out
    have hnb35:=NB193_206.out
    have hnc35:=NB206_193.out
    have hcz36_0 : w20.cell? ⟨gb193,0,none⟩ = some (.int .i64 a0_0):=(blk_cell BK193.out 0).trans rfl
    have hcz36_1 : w20.cell? ⟨gb193,1,none⟩ = some (.int .i64 a0_1):=(blk_cell BK193.out 1).trans rfl
    have hcz36_2 : w20.cell? ⟨gb193,2,none⟩ = some (.int .i64 a0_2):=(blk_cell BK193.out 2).trans rfl
    have hcz36_3 : w20.cell? ⟨gb193,3,none⟩ = some (.slice A0_3 l0_3.length c0_3):=(blk_cell BK193.out 3).trans rfl
    have hcz36_4 : w20.cell? ⟨gb193,4,none⟩ = some (.slice A0_4 l0_4.length c0_4):=(blk_cell BK193.out 4).trans rfl
    have hcz36_5 : w20.cell? ⟨gb193,5,none⟩ = some (.int .i64 a0_5):=(blk_cell BK193.out 5).trans rfl
    have hfz36_0:=blk_frozen BK193.out 0
    have hfz36_1:=blk_frozen BK193.out 1
    have hfz36_2:=blk_frozen BK193.out 2
    have hfz36_3:=blk_frozen BK193.out 3
    have hfz36_4:=blk_frozen BK193.out 4
    have hfz36_5:=blk_frozen BK193.out 5
    go_wp2_with (first|((with_reducible refine gate_callee (f:=6) rfl ?_);refine goesL_ (some 28) rfl rfl Try.func6 (by kernel_rfl) rfl #[.agg #[.int .i64 a0_0,.int .i64 a0_1,.int .i64 a0_2,.slice A0_3 l0_3.length c0_3,.slice A0_4 l0_4.length c0_4,.int .i64 a0_5]] rfl (by (try simp only [List.map_toArray,List.map_cons,List.map_nil]);first|done|rfl|(simp only [List.length_drop,List.length_take];rfl)) ?_;(with_reducible refine (coppicerkeep_turning.calls k a0_0 a0_1 a0_2 _ _ l0_3 _ _ l0_4 a0_5 true _ ?side1 ?side2 ?side3 ?side4 A21.out).mono ?_);(case side1=>repeat (first|exact (Kd.C_below HR0_3.out HB.out)|(with_reducible refine Kd.C_alloc ?_ _)|(with_reducible refine Kd.C_drewN ?_ _)|(with_reducible refine Kd.C_drew ?_)));(case side2=>exact HC0_3.out);(case side3=>repeat (first|exact (Kd.C_below HR0_4.out HB.out)|(with_reducible refine Kd.C_alloc ?_ _)|(with_reducible refine Kd.C_drewN ?_ _)|(with_reducible refine Kd.C_drew ?_)));(case side4=>exact HC0_4.out);rintro e w37 ⟨rfl,hb⟩;refine ⟨_,rfl,?_⟩;have n0_:=Aside0.mk (Kd.N_below (by (with_reducible repeat (first|apply Kd.N_alloc|apply Kd.N_drewN|apply Kd.N_drew));exact HO200.out) hb);have n1_:=Aside0.mk (Kd.N_below (by (with_reducible repeat (first|apply Kd.N_alloc|apply Kd.N_drewN|apply Kd.N_drew));exact HO203.out) hb);have n2_:=Aside0.mk (Kd.R_below (by (with_reducible repeat (first|apply Kd.R_alloc|apply Kd.R_drewN|apply Kd.R_drew));exact HO209.out) hb);have n3_:=Aside0.mk (blk_below (g:=gb193) (o:=.cells #[.int .i64 a0_0,.int .i64 a0_1,.int .i64 a0_2,.slice A0_3 l0_3.length c0_3,.slice A0_4 l0_4.length c0_4,.int .i64 a0_5] 25 (0,0)) (by (with_reducible repeat (first|refine blk_drewN ?_ _|refine blk_drew ?_|refine blk_alloc ?_ _));exact BK193.out) hb);have n4_:=Aside0.mk (blk_below (g:=gb194) (o:=.cells #[.int .i64 a1_0,.int .i64 a1_1,.int .i64 a1_2,.slice A1_3 l1_3.length c1_3,.slice A1_4 l1_4.length c1_4,.int .i64 a1_5] 25 (0,0)) (by (with_reducible repeat (first|refine blk_drewN ?_ _|refine blk_drew ?_|refine blk_alloc ?_ _));exact BK194.out) hb);have n5_:=Aside0.mk (blk_below (g:=gb206) (o:=.cells #[.int .i64 t195,.int .i64 t196,.int .i64 t197,.slice Ao17 t198.length co17,.slice Ao18 t201.length co18,.int .i64 t204] 25 (0,0)) (by (with_reducible repeat (first|refine blk_drewN ?_ _|refine blk_drew ?_|refine blk_alloc ?_ _));exact BK206.out) hb);have n6_:=Aside0.mk (below_step (by repeat (first|(with_reducible first|exact HB.out|apply below_alloc|apply pw_below_drewN|apply below_drew1|refine below_set ?_ GE193.out|refine below_set ?_ GE194.out|refine below_set ?_ GE206.out)|exact HB.out)) hb);clear HO200;clear HO203;clear HO209;clear BK193;clear BK194;clear BK206;clear HB;have HO200:=n0_;have HO203:=n1_;have HO209:=n2_;have BK193:=n3_;have BK194:=n4_;have BK206:=n5_;have HB:=n6_;clear n0_ n1_ n2_ n3_ n4_ n5_ n6_;(try clear hb);(try clear hb2);(try clear hk);(try clear hi);have hnb38:=NB194_206.out;have hnc38:=NB206_194.out;have hcz39_0 : w37.cell? ⟨gb194,0,none⟩ = some (.int .i64 a1_0):=(blk_cell BK194.out 0).trans rfl;have hcz39_1 : w37.cell? ⟨gb194,1,none⟩ = some (.int .i64 a1_1):=(blk_cell BK194.out 1).trans rfl;have hcz39_2 : w37.cell? ⟨gb194,2,none⟩ = some (.int .i64 a1_2):=(blk_cell BK194.out 2).trans rfl;have hcz39_3 : w37.cell? ⟨gb194,3,none⟩ = some (.slice A1_3 l1_3.length c1_3):=(blk_cell BK194.out 3).trans rfl;have hcz39_4 : w37.cell? ⟨gb194,4,none⟩ = some (.slice A1_4 l1_4.length c1_4):=(blk_cell BK194.out 4).trans rfl;have hcz39_5 : w37.cell? ⟨gb194,5,none⟩ = some (.int .i64 a1_5):=(blk_cell BK194.out 5).trans rfl;have hfz39_0:=blk_frozen BK194.out 0;have hfz39_1:=blk_frozen BK194.out 1;have hfz39_2:=blk_frozen BK194.out 2;have hfz39_3:=blk_frozen BK194.out 3;have hfz39_4:=blk_frozen BK194.out 4;have hfz39_5:=blk_frozen BK194.out 5)|(go_at_call 6;(with_reducible refine (coppicerkeep_turning.calls k a1_0 a1_1 a1_2 _ _ l1_3 _ _ l1_4 a1_5 false _ ?side1 ?side2 ?side3 ?side4 A23.out).mono ?_);(case side1=>repeat (first|exact (Kd.C_below HR1_3.out HB.out)|(with_reducible refine Kd.C_alloc ?_ _)|(with_reducible refine Kd.C_drewN ?_ _)|(with_reducible refine Kd.C_drew ?_)));(case side2=>exact HC1_3.out);(case side3=>repeat (first|exact (Kd.C_below HR1_4.out HB.out)|(with_reducible refine Kd.C_alloc ?_ _)|(with_reducible refine Kd.C_drewN ?_ _)|(with_reducible refine Kd.C_drew ?_)));(case side4=>exact HC1_4.out);rintro e w40 ⟨rfl,hb⟩;have n0_:=Aside0.mk (Kd.N_below (by (with_reducible repeat (first|apply Kd.N_alloc|apply Kd.N_drewN|apply Kd.N_drew));exact HO200.out) hb);have n1_:=Aside0.mk (Kd.N_below (by (with_reducible repeat (first|apply Kd.N_alloc|apply Kd.N_drewN|apply Kd.N_drew));exact HO203.out) hb);have n2_:=Aside0.mk (Kd.R_below (by (with_reducible repeat (first|apply Kd.R_alloc|apply Kd.R_drewN|apply Kd.R_drew));exact HO209.out) hb);have n3_:=Aside0.mk (blk_below (g:=gb193) (o:=.cells #[.int .i64 a0_0,.int .i64 a0_1,.int .i64 a0_2,.slice A0_3 l0_3.length c0_3,.slice A0_4 l0_4.length c0_4,.int .i64 a0_5] 25 (0,0)) (by (with_reducible repeat (first|refine blk_drewN ?_ _|refine blk_drew ?_|refine blk_alloc ?_ _));exact BK193.out) hb);have n4_:=Aside0.mk (blk_below (g:=gb194) (o:=.cells #[.int .i64 a1_0,.int .i64 a1_1,.int .i64 a1_2,.slice A1_3 l1_3.length c1_3,.slice A1_4 l1_4.length c1_4,.int .i64 a1_5] 25 (0,0)) (by (with_reducible repeat (first|refine blk_drewN ?_ _|refine blk_drew ?_|refine blk_alloc ?_ _));exact BK194.out) hb);have n5_:=Aside0.mk (blk_below (g:=gb206) (o:=.cells #[.int .i64 t195,.int .i64 t196,.int .i64 t197,.slice Ao17 t198.length co17,.slice Ao18 t201.length co18,.int .i64 t204] 25 (0,0)) (by (with_reducible repeat (first|refine blk_drewN ?_ _|refine blk_drew ?_|refine blk_alloc ?_ _));exact BK206.out) hb);have n6_:=Aside0.mk (below_step (by repeat (first|(with_reducible first|exact HB.out|apply below_alloc|apply pw_below_drewN|apply below_drew1|refine below_set ?_ GE193.out|refine below_set ?_ GE194.out|refine below_set ?_ GE206.out)|exact HB.out)) hb);clear HO200;clear HO203;clear HO209;clear BK193;clear BK194;clear BK206;clear HB;have HO200:=n0_;have HO203:=n1_;have HO209:=n2_;have BK193:=n3_;have BK194:=n4_;have BK206:=n5_;have HB:=n6_;clear n0_ n1_ n2_ n3_ n4_ n5_ n6_;(try clear hb);(try clear hb2);(try clear hk);(try clear hi)))
    go_meet
    case rel=>exact ⟨_,(true),(by first|rfl|(simp;done)|(simp [*];done)),H',⟨by first|omega|exact Nat.le_refl _⟩,⟨by (with_reducible repeat (first|apply Kd.R_alloc|apply Kd.R_drewN|apply Kd.R_drew));exact HO209.out⟩,⟨by (with_reducible repeat (first|apply Kd.N_alloc|apply Kd.N_drewN|apply Kd.N_drew));exact Kd.N_mono HO200.out (fun _ hk=>⟨hk.2,⟨hk.1.1.1,⟨hk.1.1.2.1,⟨hk.1.1.2.2,hk.1.2⟩⟩⟩⟩)⟩,⟨by (with_reducible repeat (first|apply Kd.N_alloc|apply Kd.N_drewN|apply Kd.N_drew));exact Kd.N_mono HO203.out (fun _ hk=>⟨hk.2,⟨hk.1.1.1,⟨hk.1.1.2.1,⟨hk.1.1.2.2,hk.1.2⟩⟩⟩⟩)⟩,⟨by (with_reducible repeat (first|refine blk_drewN ?_ _|refine blk_drew ?_|refine blk_alloc ?_ _));exact BK193.out⟩,⟨by (with_reducible repeat (first|refine blk_drewN ?_ _|refine blk_drew ?_|refine blk_alloc ?_ _));exact BK194.out⟩,⟨by (with_reducible repeat (first|refine blk_drewN ?_ _|refine blk_drew ?_|refine blk_alloc ?_ _));exact BK206.out⟩,⟨by repeat (first|(with_reducible first|exact HB.out|apply below_alloc|apply pw_below_drewN|apply below_drew1|refine below_set ?_ GE193.out|refine below_set ?_ GE194.out|refine below_set ?_ GE206.out)|exact HB.out)⟩⟩
  ·replace c22:=Bool.eq_false_iff.mpr c22
   subst c22
   have H1 : (coppicerkeep_TurnerThen.j0 k l2 t205 t207 t210 true a1_0 a1_1 a1_2 l1_3 l1_4 a1_5 t195 t196 t197 t198 t201 t204) = some r:=by rw [if_neg (show ¬ (false = true) by decide)] at H;exact H
   clear H
   have H:=H1
   clear H1
   have H':=Aside0.mk H
   clear H
   have hnb41:=NB193_194.out
   have hnc41:=NB194_193.out
   have hnb42:=NB193_206.out
   have hnc42:=NB206_193.out
   have hcz43_0 : w20.cell? ⟨gb193,0,none⟩ = some (.int .i64 a0_0):=(blk_cell BK193.out 0).trans rfl
   have hcz43_1 : w20.cell? ⟨gb193,1,none⟩ = some (.int .i64 a0_1):=(blk_cell BK193.out 1).trans rfl
   have hcz43_2 : w20.cell? ⟨gb193,2,none⟩ = some (.int .i64 a0_2):=(blk_cell BK193.out 2).trans rfl
   have hcz43_3 : w20.cell? ⟨gb193,3,none⟩ = some (.slice A0_3 l0_3.length c0_3):=(blk_cell BK193.out 3).trans rfl
   have hcz43_4 : w20.cell? ⟨gb193,4,none⟩ = some (.slice A0_4 l0_4.length c0_4):=(blk_cell BK193.out 4).trans rfl
   have hcz43_5 : w20.cell? ⟨gb193,5,none⟩ = some (.int .i64 a0_5):=(blk_cell BK193.out 5).trans rfl
   have hfz43_0:=blk_frozen BK193.out 0
   have hfz43_1:=blk_frozen BK193.out 1
   have hfz43_2:=blk_frozen BK193.out 2
   have hfz43_3:=blk_frozen BK193.out 3
   have hfz43_4:=blk_frozen BK193.out 4
   have hfz43_5:=blk_frozen BK193.out 5
   go_wp2_with (first|((with_reducible refine gate_callee (f:=6) rfl ?_);refine goesL_ (some 28) rfl rfl Try.func6 (by kernel_rfl) rfl #[.agg #[.int .i64 a0_0,.int .i64 a0_1,.int .i64 a0_2,.slice A0_3 l0_3.length c0_3,.slice A0_4 l0_4.length c0_4,.int .i64 a0_5]] rfl (by (try simp only [List.map_toArray,List.map_cons,List.map_nil]);first|done|rfl|(simp only [List.length_drop,List.length_take];rfl)) ?_;(with_reducible refine (coppicerkeep_turning.calls k a0_0 a0_1 a0_2 _ _ l0_3 _ _ l0_4 a0_5 false _ ?side1 ?side2 ?side3 ?side4 A21.out).mono ?_);(case side1=>repeat (first|exact (Kd.C_below HR0_3.out HB.out)|(with_reducible refine Kd.C_alloc ?_ _)|(with_reducible refine Kd.C_drewN ?_ _)|(with_reducible refine Kd.C_drew ?_)));(case side2=>exact HC0_3.out);(case side3=>repeat (first|exact (Kd.C_below HR0_4.out HB.out)|(with_reducible refine Kd.C_alloc ?_ _)|(with_reducible refine Kd.C_drewN ?_ _)|(with_reducible refine Kd.C_drew ?_)));(case side4=>exact HC0_4.out);rintro e w44 ⟨rfl,hb⟩;refine ⟨_,rfl,?_⟩;have n0_:=Aside0.mk (Kd.N_below (by (with_reducible repeat (first|apply Kd.N_alloc|apply Kd.N_drewN|apply Kd.N_drew));exact HO200.out) hb);have n1_:=Aside0.mk (Kd.N_below (by (with_reducible repeat (first|apply Kd.N_alloc|apply Kd.N_drewN|apply Kd.N_drew));exact HO203.out) hb);have n2_:=Aside0.mk (Kd.R_below (by (with_reducible repeat (first|apply Kd.R_alloc|apply Kd.R_drewN|apply Kd.R_drew));exact HO209.out) hb);have n3_:=Aside0.mk (blk_below (g:=gb193) (o:=.cells #[.int .i64 a0_0,.int .i64 a0_1,.int .i64 a0_2,.slice A0_3 l0_3.length c0_3,.slice A0_4 l0_4.length c0_4,.int .i64 a0_5] 25 (0,0)) (by (with_reducible repeat (first|refine blk_drewN ?_ _|refine blk_drew ?_|refine blk_alloc ?_ _));exact BK193.out) hb);have n4_:=Aside0.mk (blk_below (g:=gb194) (o:=.cells #[.int .i64 a1_0,.int .i64 a1_1,.int .i64 a1_2,.slice A1_3 l1_3.length c1_3,.slice A1_4 l1_4.length c1_4,.int .i64 a1_5] 25 (0,0)) (by (with_reducible repeat (first|refine blk_drewN ?_ _|refine blk_drew ?_|refine blk_alloc ?_ _));exact BK194.out) hb);have n5_:=Aside0.mk (blk_below (g:=gb206) (o:=.cells #[.int .i64 t195,.int .i64 t196,.int .i64 t197,.slice Ao17 t198.length co17,.slice Ao18 t201.length co18,.int .i64 t204] 25 (0,0)) (by (with_reducible repeat (first|refine blk_drewN ?_ _|refine blk_drew ?_|refine blk_alloc ?_ _));exact BK206.out) hb);have n6_:=Aside0.mk (below_step (by repeat (first|(with_reducible first|exact HB.out|apply below_alloc|apply pw_below_drewN|apply below_drew1|refine below_set ?_ GE193.out|refine below_set ?_ GE194.out|refine below_set ?_ GE206.out)|exact HB.out)) hb);clear HO200;clear HO203;clear HO209;clear BK193;clear BK194;clear BK206;clear HB;have HO200:=n0_;have HO203:=n1_;have HO209:=n2_;have BK193:=n3_;have BK194:=n4_;have BK206:=n5_;have HB:=n6_;clear n0_ n1_ n2_ n3_ n4_ n5_ n6_;(try clear hb);(try clear hb2);(try clear hk);(try clear hi)))
   go_meet
   case rel=>exact ⟨_,(true),(by first|rfl|(simp;done)|(simp [*];done)),H',⟨by first|omega|exact Nat.le_refl _⟩,⟨by (with_reducible repeat (first|apply Kd.R_alloc|apply Kd.R_drewN|apply Kd.R_drew));exact HO209.out⟩,⟨by (with_reducible repeat (first|apply Kd.N_alloc|apply Kd.N_drewN|apply Kd.N_drew));exact Kd.N_mono HO200.out (fun _ hk=>⟨hk.2,⟨hk.1.1.1,⟨hk.1.1.2.1,⟨hk.1.1.2.2,hk.1.2⟩⟩⟩⟩)⟩,⟨by (with_reducible repeat (first|apply Kd.N_alloc|apply Kd.N_drewN|apply Kd.N_drew));exact Kd.N_mono HO203.out (fun _ hk=>⟨hk.2,⟨hk.1.1.1,⟨hk.1.1.2.1,⟨hk.1.1.2.2,hk.1.2⟩⟩⟩⟩)⟩,⟨by (with_reducible repeat (first|refine blk_drewN ?_ _|refine blk_drew ?_|refine blk_alloc ?_ _));exact BK193.out⟩,⟨by (with_reducible repeat (first|refine blk_drewN ?_ _|refine blk_drew ?_|refine blk_alloc ?_ _));exact BK194.out⟩,⟨by (with_reducible repeat (first|refine blk_drewN ?_ _|refine blk_drew ?_|refine blk_alloc ?_ _));exact BK206.out⟩,⟨by repeat (first|(with_reducible first|exact HB.out|apply below_alloc|apply pw_below_drewN|apply below_drew1|refine below_set ?_ GE193.out|refine below_set ?_ GE194.out|refine below_set ?_ GE206.out)|exact HB.out)⟩⟩
 case rest =>
  clear HC6
  try clear c1
  try clear c2
  try clear p2
  try clear c3
  try clear c4
  try clear c5
  try clear c6
  try clear c9
  try clear c14
  try clear c15
  try clear c22
  try clear c24
  try clear c26
  try clear c27
  try clear c30
  try clear c34
  try clear c35
  try clear c38
  try clear c41
  try clear c42
  try clear hcz10_0
  try clear hcz10_1
  try clear hcz10_2
  try clear hcz10_3
  try clear hcz10_4
  try clear hcz10_5
  try clear hcz11_0
  try clear hcz11_1
  try clear hcz11_2
  try clear hcz11_3
  try clear hcz11_4
  try clear hcz11_5
  try clear hcz16_0
  try clear hcz16_1
  try clear hcz16_2
  try clear hcz16_3
  try clear hcz16_4
  try clear hcz16_5
  try clear hcz19_0
  try clear hcz19_1
  try clear hcz19_2
  try clear hcz19_3
  try clear hcz19_4
  try clear hcz19_5
  try clear hcz28_0
  try clear hcz28_1
  try clear hcz28_2
  try clear hcz28_3
  try clear hcz28_4
  try clear hcz28_5
  try clear hcz31_0
  try clear hcz31_1
  try clear hcz31_2
  try clear hcz31_3
  try clear hcz31_4
  try clear hcz31_5
  try clear hcz33_0
  try clear hcz33_1
  try clear hcz33_2
  try clear hcz33_3
  try clear hcz33_4
  try clear hcz33_5
  try clear hcz36_0
  try clear hcz36_1
  try clear hcz36_2
  try clear hcz36_3
  try clear hcz36_4
  try clear hcz36_5
  try clear hcz39_0
  try clear hcz39_1
  try clear hcz39_2
  try clear hcz39_3
  try clear hcz39_4
  try clear hcz39_5
  try clear hcz43_0
  try clear hcz43_1
  try clear hcz43_2
  try clear hcz43_3
  try clear hcz43_4
  try clear hcz43_5
  try clear hfz10_0
  try clear hfz10_1
  try clear hfz10_2
  try clear hfz10_3
  try clear hfz10_4
  try clear hfz10_5
  try clear hfz11_0
  try clear hfz11_1
  try clear hfz11_2
  try clear hfz11_3
  try clear hfz11_4
  try clear hfz11_5
  try clear hfz16_0
  try clear hfz16_1
  try clear hfz16_2
  try clear hfz16_3
  try clear hfz16_4
  try clear hfz16_5
  try clear hfz19_0
  try clear hfz19_1
  try clear hfz19_2
  try clear hfz19_3
  try clear hfz19_4
  try clear hfz19_5
  try clear hfz28_0
  try clear hfz28_1
  try clear hfz28_2
  try clear hfz28_3
  try clear hfz28_4
  try clear hfz28_5
  try clear hfz31_0
  try clear hfz31_1
  try clear hfz31_2
  try clear hfz31_3
  try clear hfz31_4
  try clear hfz31_5
  try clear hfz33_0
  try clear hfz33_1
  try clear hfz33_2
  try clear hfz33_3
  try clear hfz33_4
  try clear hfz33_5
  try clear hfz36_0
  try clear hfz36_1
  try clear hfz36_2
  try clear hfz36_3
  try clear hfz36_4
  try clear hfz36_5
  try clear hfz39_0
  try clear hfz39_1
  try clear hfz39_2
  try clear hfz39_3
  try clear hfz39_4
  try clear hfz39_5
  try clear hfz43_0
  try clear hfz43_1
  try clear hfz43_2
  try clear hfz43_3
  try clear hfz43_4
  try clear hfz43_5
  obtain ⟨kq,x41_5,rfl,HA,HJ5,HO_9,HO_207003,HO_207004,BK193,BK194,BK206,HB⟩:=hcut
  cases kq with
  | zero=>exact absurd HA.out (by simp [coppicerkeep_TurnerThen.j0])
  | succ kj5 =>
   have H:=HA.out
   clear HA
   simp only [coppicerkeep_TurnerThen.j0] at H
   by_cases c45 : x41_5 = true
   ·subst c45
    have H1 : (if t205 = 0 then (some (t210 != 0)) else (some true)) = some r:=by rw [if_pos rfl] at H;exact H
    clear H
    have H:=H1
    clear H1
    by_cases c46 : t205 = 0
    ·rw [if_pos c46] at H
     have c46b0 : (t205 == 0) = true:=beq_iff_eq.mpr c46
     have c46b1 : (t205 != 0) = false:=bne_eq_false_iff_eq.mpr c46
     clear c46
     obtain rfl:=Option.some.inj H
     go_wp2
     go_ret
     exact ⟨by first|rfl|(simp [errW_none,errW_some] <;> rfl)|(simp [*,errW_none,errW_some] <;> rfl),by repeat (first|(with_reducible first|exact HB.out|apply below_alloc|apply pw_below_drewN|apply below_drew1|refine below_set ?_ GE193.out|refine below_set ?_ GE194.out|refine below_set ?_ GE206.out)|exact HB.out)⟩
    ·rw [if_neg c46] at H
     have c46b0 : (t205 == 0) = false:=beq_eq_false_iff_ne.mpr c46
     have c46b1 : (t205 != 0) = true:=bne_iff_ne.mpr c46
     obtain rfl:=Option.some.inj H
     go_wp2
     go_ret
     exact ⟨by first|rfl|(simp [errW_none,errW_some] <;> rfl)|(simp [*,errW_none,errW_some] <;> rfl),by repeat (first|(with_reducible first|exact HB.out|apply below_alloc|apply pw_below_drewN|apply below_drew1|refine below_set ?_ GE193.out|refine below_set ?_ GE194.out|refine below_set ?_ GE206.out)|exact HB.out)⟩
   ·replace c45:=Bool.eq_false_iff.mpr c45
    subst c45
    have H1 : (if t210 = 0 then (if t205 = 0 then ((turner_Run.f kj5 a1_0 a1_1 a1_2 l1_3 l1_4 a1_5 t207).bind fun bt214=>((turner_Run.f kj5 t195 t196 t197 t198 t201 t204 l2).bind fun bt218=>(if bt218.2 = 0 then (if (t207.length : Int) > 12 then (if bt214.2 = 0 then ((coppicerref_Ints.f kj5 bt214.1 bt218.1).bind fun t222=>(coppicerkeep_TurnerThen.j1 kj5 t222)) else (coppicerkeep_TurnerThen.j1 kj5 true)) else (if bt214.2 = 0 then ((coppicerref_Ints.f kj5 bt214.1 bt218.1).bind fun t223=>(coppicerkeep_TurnerThen.j1 kj5 t223)) else (coppicerkeep_TurnerThen.j1 kj5 false))) else (coppicerkeep_TurnerThen.j1 kj5 false)))) else (some (t195 == 0))) else (some false)) = some r:=by rw [if_neg (show ¬ (false = true) by decide)] at H;exact H
    clear H
    have H:=H1
    clear H1
    by_cases c47 : t210 = 0
    ·rw [if_pos c47] at H
     have c47b0 : (t210 == 0) = true:=beq_iff_eq.mpr c47
     have c47b1 : (t210 != 0) = false:=bne_eq_false_iff_eq.mpr c47
     clear c47
     by_cases c48 : t205 = 0
     ·rw [if_pos c48] at H
      have c48b0 : (t205 == 0) = true:=beq_iff_eq.mpr c48
      have c48b1 : (t205 != 0) = false:=bne_eq_false_iff_eq.mpr c48
      clear c48
      replace H:=Option.bind_eq_some_iff.mp H
      obtain ⟨⟨t214,t217⟩,A490,H⟩:=H
      replace H : ((turner_Run.f kj5 t195 t196 t197 t198 t201 t204 l2).bind fun bt218=>(if bt218.2 = 0 then (if (t207.length : Int) > 12 then (if t217 = 0 then ((coppicerref_Ints.f kj5 t214 bt218.1).bind fun t222=>(coppicerkeep_TurnerThen.j1 kj5 t222)) else (coppicerkeep_TurnerThen.j1 kj5 true)) else (if t217 = 0 then ((coppicerref_Ints.f kj5 t214 bt218.1).bind fun t223=>(coppicerkeep_TurnerThen.j1 kj5 t223)) else (coppicerkeep_TurnerThen.j1 kj5 false))) else (coppicerkeep_TurnerThen.j1 kj5 false))) = some r:=H
      have A49:=Aside0.mk A490
      clear A490
      replace H:=Option.bind_eq_some_iff.mp H
      obtain ⟨⟨t218,t221⟩,A500,H⟩:=H
      replace H : (if t221 = 0 then (if (t207.length : Int) > 12 then (if t217 = 0 then ((coppicerref_Ints.f kj5 t214 t218).bind fun t222=>(coppicerkeep_TurnerThen.j1 kj5 t222)) else (coppicerkeep_TurnerThen.j1 kj5 true)) else (if t217 = 0 then ((coppicerref_Ints.f kj5 t214 t218).bind fun t223=>(coppicerkeep_TurnerThen.j1 kj5 t223)) else (coppicerkeep_TurnerThen.j1 kj5 false))) else (coppicerkeep_TurnerThen.j1 kj5 false)) = some r:=H
      have A50:=Aside0.mk A500
      clear A500
      have HC51:=Aside0.mk H
      clear H
      have hnb52:=NB194_193.out
      have hnc52:=NB193_194.out
      have hnb53:=NB194_206.out
      have hnc53:=NB206_194.out
      have hcz54_0 : wc.cell? ⟨gb194,0,none⟩ = some (.int .i64 a1_0):=(blk_cell BK194.out 0).trans rfl
      have hcz54_1 : wc.cell? ⟨gb194,1,none⟩ = some (.int .i64 a1_1):=(blk_cell BK194.out 1).trans rfl
      have hcz54_2 : wc.cell? ⟨gb194,2,none⟩ = some (.int .i64 a1_2):=(blk_cell BK194.out 2).trans rfl
      have hcz54_3 : wc.cell? ⟨gb194,3,none⟩ = some (.slice A1_3 l1_3.length c1_3):=(blk_cell BK194.out 3).trans rfl
      have hcz54_4 : wc.cell? ⟨gb194,4,none⟩ = some (.slice A1_4 l1_4.length c1_4):=(blk_cell BK194.out 4).trans rfl
      have hcz54_5 : wc.cell? ⟨gb194,5,none⟩ = some (.int .i64 a1_5):=(blk_cell BK194.out 5).trans rfl
      have hfz54_0:=blk_frozen BK194.out 0
      have hfz54_1:=blk_frozen BK194.out 1
      have hfz54_2:=blk_frozen BK194.out 2
      have hfz54_3:=blk_frozen BK194.out 3
      have hfz54_4:=blk_frozen BK194.out 4
      have hfz54_5:=blk_frozen BK194.out 5
      obtain ⟨Ao55,co55,eo55⟩:=Kd.R_slice HO_9.out
      subst eo55
      go_upto_region 11 with (first|((with_reducible refine gate_callee (f:=5) rfl ?_);refine goesL_ (some 58) rfl rfl Try.func5 (by kernel_rfl) rfl #[.agg #[.int .i64 a1_0,.int .i64 a1_1,.int .i64 a1_2,.slice A1_3 l1_3.length c1_3,.slice A1_4 l1_4.length c1_4,.int .i64 a1_5],.slice Ao55 t207.length co55] rfl (by (try simp only [List.map_toArray,List.map_cons,List.map_nil]);first|done|rfl|(simp only [List.length_drop,List.length_take];rfl)) ?_;(with_reducible refine (turner_Run.calls kj5 a1_0 a1_1 a1_2 _ _ l1_3 _ _ l1_4 a1_5 _ _ t207 t214 t217 _ ?side1 ?side2 ?side3 ?side4 ?side5 ?side6 A49.out).mono ?_);(case side1=>repeat (first|exact (Kd.C_below HR1_3.out HB.out)|(with_reducible refine Kd.C_alloc ?_ _)|(with_reducible refine Kd.C_drewN ?_ _)|(with_reducible refine Kd.C_drew ?_)));(case side2=>exact HC1_3.out);(case side3=>repeat (first|exact (Kd.C_below HR1_4.out HB.out)|(with_reducible refine Kd.C_alloc ?_ _)|(with_reducible refine Kd.C_drewN ?_ _)|(with_reducible refine Kd.C_drew ?_)));(case side4=>exact HC1_4.out);(case side5=>repeat (first|exact (Kd.R_reads' HO_9.out).2.2|(with_reducible refine Kd.C_alloc ?_ _)|(with_reducible refine Kd.C_drewN ?_ _)|(with_reducible refine Kd.C_drew ?_)));(case side6=>exact (Kd.R_reads' HO_9.out).2.1);rintro e w56 ⟨v215,rfl,ho0,hb⟩;refine ⟨_,rfl,?_⟩;have n0_:=Aside0.mk (Kd.R_elder' (by (with_reducible repeat (first|apply Kd.R_alloc|apply Kd.R_drewN|apply Kd.R_drew));exact HO_9.out) (Kd.R_base ho0) hb);have n1_:=Aside0.mk (Kd.N_elder' (by (with_reducible repeat (first|apply Kd.N_alloc|apply Kd.N_drewN|apply Kd.N_drew));exact HO_207003.out) (Kd.R_base ho0) hb);have n2_:=Aside0.mk (Kd.N_elder' (by (with_reducible repeat (first|apply Kd.N_alloc|apply Kd.N_drewN|apply Kd.N_drew));exact HO_207004.out) (Kd.R_base ho0) hb);have n3_:=Aside0.mk (Kd.R_lower (Kd.R_new' ho0 (Kd.R_lt (by (with_reducible repeat (first|apply Kd.R_alloc|apply Kd.R_drewN|apply Kd.R_drew));exact HO_9.out))) (below_size (by repeat (first|(with_reducible first|exact HB.out|apply below_alloc|apply pw_below_drewN|apply below_drew1|refine below_set ?_ GE193.out|refine below_set ?_ GE194.out|refine below_set ?_ GE206.out)|exact HB.out))));have n4_:=Aside0.mk (blk_below (g:=gb193) (o:=.cells #[.int .i64 a0_0,.int .i64 a0_1,.int .i64 a0_2,.slice A0_3 l0_3.length c0_3,.slice A0_4 l0_4.length c0_4,.int .i64 a0_5] 25 (0,0)) (by (with_reducible repeat (first|refine blk_drewN ?_ _|refine blk_drew ?_|refine blk_alloc ?_ _));exact BK193.out) hb);have n5_:=Aside0.mk (blk_below (g:=gb194) (o:=.cells #[.int .i64 a1_0,.int .i64 a1_1,.int .i64 a1_2,.slice A1_3 l1_3.length c1_3,.slice A1_4 l1_4.length c1_4,.int .i64 a1_5] 25 (0,0)) (by (with_reducible repeat (first|refine blk_drewN ?_ _|refine blk_drew ?_|refine blk_alloc ?_ _));exact BK194.out) hb);have n6_:=Aside0.mk (blk_below (g:=gb206) (o:=.cells #[.int .i64 t195,.int .i64 t196,.int .i64 t197,.slice Ao17 t198.length co17,.slice Ao18 t201.length co18,.int .i64 t204] 25 (0,0)) (by (with_reducible repeat (first|refine blk_drewN ?_ _|refine blk_drew ?_|refine blk_alloc ?_ _));exact BK206.out) hb);have n7_:=Aside0.mk (below_step (by repeat (first|(with_reducible first|exact HB.out|apply below_alloc|apply pw_below_drewN|apply below_drew1|refine below_set ?_ GE193.out|refine below_set ?_ GE194.out|refine below_set ?_ GE206.out)|exact HB.out)) hb);clear HO_9;clear HO_207003;clear HO_207004;clear BK193;clear BK194;clear BK206;clear HB;have HO_9:=n0_;have HO_207003:=n1_;have HO_207004:=n2_;have HO216:=n3_;have BK193:=n4_;have BK194:=n5_;have BK206:=n6_;have HB:=n7_;clear n0_ n1_ n2_ n3_ n4_ n5_ n6_ n7_;(try clear hb);(try clear hb2);(try clear hk);(try clear hi);(try clear ho0);have hnb57:=NB206_193.out;have hnc57:=NB193_206.out;have hcz58_0 : w56.cell? ⟨gb206,0,none⟩ = some (.int .i64 t195):=(blk_cell BK206.out 0).trans rfl;have hcz58_1 : w56.cell? ⟨gb206,1,none⟩ = some (.int .i64 t196):=(blk_cell BK206.out 1).trans rfl;have hcz58_2 : w56.cell? ⟨gb206,2,none⟩ = some (.int .i64 t197):=(blk_cell BK206.out 2).trans rfl;have hcz58_3 : w56.cell? ⟨gb206,3,none⟩ = some (.slice Ao17 t198.length co17):=(blk_cell BK206.out 3).trans rfl;have hcz58_4 : w56.cell? ⟨gb206,4,none⟩ = some (.slice Ao18 t201.length co18):=(blk_cell BK206.out 4).trans rfl;have hcz58_5 : w56.cell? ⟨gb206,5,none⟩ = some (.int .i64 t204):=(blk_cell BK206.out 5).trans rfl;have hfz58_0:=blk_frozen BK206.out 0;have hfz58_1:=blk_frozen BK206.out 1;have hfz58_2:=blk_frozen BK206.out 2;have hfz58_3:=blk_frozen BK206.out 3;have hfz58_4:=blk_frozen BK206.out 4;have hfz58_5:=blk_frozen BK206.out 5)|((with_reducible refine gate_callee (f:=5) rfl ?_);refine goesL_ (some 64) rfl rfl Try.func5 (by kernel_rfl) rfl #[.agg #[.int .i64 t195,.int .i64 t196,.int .i64 t197,.slice Ao17 t198.length co17,.slice Ao18 t201.length co18,.int .i64 t204],.slice A2 l2.length c2] rfl (by (try simp only [List.map_toArray,List.map_cons,List.map_nil]);first|done|rfl|(simp only [List.length_drop,List.length_take];rfl)) ?_;(with_reducible refine (turner_Run.calls kj5 t195 t196 t197 _ _ t198 _ _ t201 t204 _ _ l2 t218 t221 _ ?side1 ?side2 ?side3 ?side4 ?side5 ?side6 A50.out).mono ?_);(case side1=>repeat (first|exact (Kd.N_reads' HO_207003.out).2.2|(with_reducible refine Kd.C_alloc ?_ _)|(with_reducible refine Kd.C_drewN ?_ _)|(with_reducible refine Kd.C_drew ?_)));(case side2=>exact (Kd.N_reads' HO_207003.out).2.1);(case side3=>repeat (first|exact (Kd.N_reads' HO_207004.out).2.2|(with_reducible refine Kd.C_alloc ?_ _)|(with_reducible refine Kd.C_drewN ?_ _)|(with_reducible refine Kd.C_drew ?_)));(case side4=>exact (Kd.N_reads' HO_207004.out).2.1);(case side5=>repeat (first|exact (Kd.C_below HR2.out HB.out)|(with_reducible refine Kd.C_alloc ?_ _)|(with_reducible refine Kd.C_drewN ?_ _)|(with_reducible refine Kd.C_drew ?_)));(case side6=>exact HC2.out);rintro e w59 ⟨v219,rfl,ho0,hb⟩;refine ⟨_,rfl,?_⟩;have n0_:=Aside0.mk (Kd.R_elder' (by (with_reducible repeat (first|apply Kd.R_alloc|apply Kd.R_drewN|apply Kd.R_drew));exact HO_9.out) (Kd.R_base ho0) hb);have n1_:=Aside0.mk (Kd.N_elder' (by (with_reducible repeat (first|apply Kd.N_alloc|apply Kd.N_drewN|apply Kd.N_drew));exact HO_207003.out) (Kd.R_base ho0) hb);have n2_:=Aside0.mk (Kd.N_elder' (by (with_reducible repeat (first|apply Kd.N_alloc|apply Kd.N_drewN|apply Kd.N_drew));exact HO_207004.out) (Kd.R_base ho0) hb);have n3_:=Aside0.mk (Kd.R_elder' (by (with_reducible repeat (first|apply Kd.R_alloc|apply Kd.R_drewN|apply Kd.R_drew));exact HO216.out) (Kd.R_base ho0) hb);have n4_:=Aside0.mk (Kd.R_lower (Kd.R_new' (Kd.R_new' ho0 (Kd.R_lt (by (with_reducible repeat (first|apply Kd.R_alloc|apply Kd.R_drewN|apply Kd.R_drew));exact HO_9.out))) (Kd.R_lt (by (with_reducible repeat (first|apply Kd.R_alloc|apply Kd.R_drewN|apply Kd.R_drew));exact HO216.out))) (below_size (by repeat (first|(with_reducible first|exact HB.out|apply below_alloc|apply pw_below_drewN|apply below_drew1|refine below_set ?_ GE193.out|refine below_set ?_ GE194.out|refine below_set ?_ GE206.out)|exact HB.out))));have n5_:=Aside0.mk (blk_below (g:=gb193) (o:=.cells #[.int .i64 a0_0,.int .i64 a0_1,.int .i64 a0_2,.slice A0_3 l0_3.length c0_3,.slice A0_4 l0_4.length c0_4,.int .i64 a0_5] 25 (0,0)) (by (with_reducible repeat (first|refine blk_drewN ?_ _|refine blk_drew ?_|refine blk_alloc ?_ _));exact BK193.out) hb);have n6_:=Aside0.mk (blk_below (g:=gb194) (o:=.cells #[.int .i64 a1_0,.int .i64 a1_1,.int .i64 a1_2,.slice A1_3 l1_3.length c1_3,.slice A1_4 l1_4.length c1_4,.int .i64 a1_5] 25 (0,0)) (by (with_reducible repeat (first|refine blk_drewN ?_ _|refine blk_drew ?_|refine blk_alloc ?_ _));exact BK194.out) hb);have n7_:=Aside0.mk (blk_below (g:=gb206) (o:=.cells #[.int .i64 t195,.int .i64 t196,.int .i64 t197,.slice Ao17 t198.length co17,.slice Ao18 t201.length co18,.int .i64 t204] 25 (0,0)) (by (with_reducible repeat (first|refine blk_drewN ?_ _|refine blk_drew ?_|refine blk_alloc ?_ _));exact BK206.out) hb);have n8_:=Aside0.mk (below_step (by repeat (first|(with_reducible first|exact HB.out|apply below_alloc|apply pw_below_drewN|apply below_drew1|refine below_set ?_ GE193.out|refine below_set ?_ GE194.out|refine below_set ?_ GE206.out)|exact HB.out)) hb);clear HO_9;clear HO_207003;clear HO_207004;clear HO216;clear BK193;clear BK194;clear BK206;clear HB;have HO_9:=n0_;have HO_207003:=n1_;have HO_207004:=n2_;have HO216:=n3_;have HO220:=n4_;have BK193:=n5_;have BK194:=n6_;have BK206:=n7_;have HB:=n8_;clear n0_ n1_ n2_ n3_ n4_ n5_ n6_ n7_ n8_;(try clear hb);(try clear hb2);(try clear hk);(try clear hi);(try clear ho0)))
      (try simp only [Act.put,List.setIfInBounds_toArray,List.set_cons_zero,List.set_cons_succ])
      go_cut [6] (fun v6 wc=>∃ (kq : Nat) (x6_50 : Bool),v6 = .bool x6_50 ∧ Aside0 (coppicerkeep_TurnerThen.j1 kq x6_50 = some r) ∧ Aside0 (kq ≤ kj5) ∧ Aside0 (Kd.N (Kd.slice 3 (Kd.int .i64)) 26 wc w.heap.size (fun k_=>some k_ ≠ ((.slice Ao18 t201.length co18) : Value).ownBlock ∧ k_ ≠ gb193 ∧ k_ ≠ gb194 ∧ k_ ≠ gb206) (.slice Ao17 t198.length co17) t198) ∧ Aside0 (Kd.N (Kd.slice 26 (Kd.slice 3 (Kd.int .i64))) 22 wc w.heap.size (fun k_=>some k_ ≠ ((.slice Ao17 t198.length co17) : Value).ownBlock ∧ k_ ≠ gb193 ∧ k_ ≠ gb194 ∧ k_ ≠ gb206) (.slice Ao18 t201.length co18) t201) ∧ Aside0 (wc.heap[gb193]? = some (.cells #[.int .i64 a0_0,.int .i64 a0_1,.int .i64 a0_2,(.slice A0_3 l0_3.length c0_3),(.slice A0_4 l0_4.length c0_4),.int .i64 a0_5] 25 (0,0))) ∧ Aside0 (wc.heap[gb194]? = some (.cells #[.int .i64 a1_0,.int .i64 a1_1,.int .i64 a1_2,(.slice A1_3 l1_3.length c1_3),(.slice A1_4 l1_4.length c1_4),.int .i64 a1_5] 25 (0,0))) ∧ Aside0 (wc.heap[gb206]? = some (.cells #[.int .i64 t195,.int .i64 t196,.int .i64 t197,(.slice Ao17 t198.length co17),(.slice Ao18 t201.length co18),.int .i64 t204] 25 (0,0))) ∧ Aside0 (Below w.heap.size w wc))
      case first =>
       have H:=HC51.out
       clear HC51
       by_cases c60 : t221 = 0
       ·rw [if_pos c60] at H
        have c60b0 : (t221 == 0) = true:=beq_iff_eq.mpr c60
        have c60b1 : (t221 != 0) = false:=bne_eq_false_iff_eq.mpr c60
        clear c60
        (first|rw [c60b0]|(simp only [i64_w,i32_w];rw [c60b0])|skip)
        by_cases c61 : (t207.length : Int) > 12
        ·rw [if_pos c61] at H
         have c61b0 : decide (12 < (t207.length : Int)) = true:=decide_eq_true c61
         have c61b1 : decide (12 < t207.length) = true:=decide_eq_true (by omega)
         clear c61
         by_cases c62 : t217 = 0
         ·rw [if_pos c62] at H
          have c62b0 : (t217 == 0) = true:=beq_iff_eq.mpr c62
          have c62b1 : (t217 != 0) = false:=bne_eq_false_iff_eq.mpr c62
          clear c62
          replace H:=Option.bind_eq_some_iff.mp H
          obtain ⟨t222,A630,H⟩:=H
          replace H : (coppicerkeep_TurnerThen.j1 kj5 t222) = some r:=H
          have A63:=Aside0.mk A630
          clear A630
          have H':=Aside0.mk H
          clear H
          obtain ⟨Ao64,co64,eo64⟩:=Kd.R_slice HO216.out
          subst eo64
          obtain ⟨Ao65,co65,eo65⟩:=Kd.R_slice HO220.out
          subst eo65
          go_wp2_with (first|(go_at_call 8;(with_reducible refine (coppicerref_Ints.calls kj5 _ _ t214 _ _ t218 t222 _ ?side1 ?side2 ?side3 ?side4 A63.out).mono ?_);(case side1=>repeat (first|exact (Kd.R_reads' HO216.out).2.2|(with_reducible refine Kd.C_alloc ?_ _)|(with_reducible refine Kd.C_drewN ?_ _)|(with_reducible refine Kd.C_drew ?_)));(case side2=>exact (Kd.R_reads' HO216.out).2.1);(case side3=>repeat (first|exact (Kd.R_reads' HO220.out).2.2|(with_reducible refine Kd.C_alloc ?_ _)|(with_reducible refine Kd.C_drewN ?_ _)|(with_reducible refine Kd.C_drew ?_)));(case side4=>exact (Kd.R_reads' HO220.out).2.1);rintro e w' ⟨rfl,⟨nd,rfl⟩⟩))
          go_meet
          case rel=>exact ⟨_,(t222),(by first|rfl|(simp;done)|(simp [*];done)),H',⟨by have:=HJ5.out;first|omega|exact Nat.le_refl _⟩,⟨by (with_reducible repeat (first|apply Kd.N_alloc|apply Kd.N_drewN|apply Kd.N_drew));exact Kd.N_mono HO_207003.out (fun _ hk=>⟨hk.1.1.2.1,⟨hk.1.1.2.2.1,⟨hk.1.1.2.2.2.1,hk.1.1.2.2.2.2⟩⟩⟩)⟩,⟨by (with_reducible repeat (first|apply Kd.N_alloc|apply Kd.N_drewN|apply Kd.N_drew));exact Kd.N_mono HO_207004.out (fun _ hk=>⟨hk.1.1.2.1,⟨hk.1.1.2.2.1,⟨hk.1.1.2.2.2.1,hk.1.1.2.2.2.2⟩⟩⟩)⟩,⟨by (with_reducible repeat (first|refine blk_drewN ?_ _|refine blk_drew ?_|refine blk_alloc ?_ _));exact BK193.out⟩,⟨by (with_reducible repeat (first|refine blk_drewN ?_ _|refine blk_drew ?_|refine blk_alloc ?_ _));exact BK194.out⟩,⟨by (with_reducible repeat (first|refine blk_drewN ?_ _|refine blk_drew ?_|refine blk_alloc ?_ _));exact BK206.out⟩,⟨by repeat (first|(with_reducible first|exact HB.out|apply below_alloc|apply pw_below_drewN|apply below_drew1|refine below_set ?_ GE193.out|refine below_set ?_ GE194.out|refine below_set ?_ GE206.out)|exact HB.out)⟩⟩
         ·rw [if_neg c62] at H
          have c62b0 : (t217 == 0) = false:=beq_eq_false_iff_ne.mpr c62
          have c62b1 : (t217 != 0) = true:=bne_iff_ne.mpr c62
          have H':=Aside0.mk H
          clear H
          go_wp2
          go_meet
          case rel=>exact ⟨_,(true),(by first|rfl|(simp;done)|(simp [*];done)),H',⟨by have:=HJ5.out;first|omega|exact Nat.le_refl _⟩,⟨by (with_reducible repeat (first|apply Kd.N_alloc|apply Kd.N_drewN|apply Kd.N_drew));exact Kd.N_mono HO_207003.out (fun _ hk=>⟨hk.1.1.2.1,⟨hk.1.1.2.2.1,⟨hk.1.1.2.2.2.1,hk.1.1.2.2.2.2⟩⟩⟩)⟩,⟨by (with_reducible repeat (first|apply Kd.N_alloc|apply Kd.N_drewN|apply Kd.N_drew));exact Kd.N_mono HO_207004.out (fun _ hk=>⟨hk.1.1.2.1,⟨hk.1.1.2.2.1,⟨hk.1.1.2.2.2.1,hk.1.1.2.2.2.2⟩⟩⟩)⟩,⟨by (with_reducible repeat (first|refine blk_drewN ?_ _|refine blk_drew ?_|refine blk_alloc ?_ _));exact BK193.out⟩,⟨by (with_reducible repeat (first|refine blk_drewN ?_ _|refine blk_drew ?_|refine blk_alloc ?_ _));exact BK194.out⟩,⟨by (with_reducible repeat (first|refine blk_drewN ?_ _|refine blk_drew ?_|refine blk_alloc ?_ _));exact BK206.out⟩,⟨by repeat (first|(with_reducible first|exact HB.out|apply below_alloc|apply pw_below_drewN|apply below_drew1|refine below_set ?_ GE193.out|refine below_set ?_ GE194.out|refine below_set ?_ GE206.out)|exact HB.out)⟩⟩
        ·rw [if_neg c61] at H
         have c61b0 : decide (12 < (t207.length : Int)) = false:=decide_eq_false c61
         have c61b1 : decide (12 < t207.length) = false:=decide_eq_false (by omega)
         clear c61
         by_cases c66 : t217 = 0
         ·rw [if_pos c66] at H
          have c66b0 : (t217 == 0) = true:=beq_iff_eq.mpr c66
          have c66b1 : (t217 != 0) = false:=bne_eq_false_iff_eq.mpr c66
          clear c66
          replace H:=Option.bind_eq_some_iff.mp H
          obtain ⟨t223,A670,H⟩:=H
          replace H : (coppicerkeep_TurnerThen.j1 kj5 t223) = some r:=H
          have A67:=Aside0.mk A670
          clear A670
          have H':=Aside0.mk H
          clear H
          obtain ⟨Ao68,co68,eo68⟩:=Kd.R_slice HO216.out
          subst eo68
          obtain ⟨Ao69,co69,eo69⟩:=Kd.R_slice HO220.out
          subst eo69
          go_wp2_with (first|(go_at_call 8;(with_reducible refine (coppicerref_Ints.calls kj5 _ _ t214 _ _ t218 t223 _ ?side1 ?side2 ?side3 ?side4 A67.out).mono ?_);(case side1=>repeat (first|exact (Kd.R_reads' HO216.out).2.2|(with_reducible refine Kd.C_alloc ?_ _)|(with_reducible refine Kd.C_drewN ?_ _)|(with_reducible refine Kd.C_drew ?_)));(case side2=>exact (Kd.R_reads' HO216.out).2.1);(case side3=>repeat (first|exact (Kd.R_reads' HO220.out).2.2|(with_reducible refine Kd.C_alloc ?_ _)|(with_reducible refine Kd.C_drewN ?_ _)|(with_reducible refine Kd.C_drew ?_)));(case side4=>exact (Kd.R_reads' HO220.out).2.1);rintro e w' ⟨rfl,⟨nd,rfl⟩⟩))
          go_meet
          case rel=>exact ⟨_,(t223),(by first|rfl|(simp;done)|(simp [*];done)),H',⟨by have:=HJ5.out;first|omega|exact Nat.le_refl _⟩,⟨by (with_reducible repeat (first|apply Kd.N_alloc|apply Kd.N_drewN|apply Kd.N_drew));exact Kd.N_mono HO_207003.out (fun _ hk=>⟨hk.1.1.2.1,⟨hk.1.1.2.2.1,⟨hk.1.1.2.2.2.1,hk.1.1.2.2.2.2⟩⟩⟩)⟩,⟨by (with_reducible repeat (first|apply Kd.N_alloc|apply Kd.N_drewN|apply Kd.N_drew));exact Kd.N_mono HO_207004.out (fun _ hk=>⟨hk.1.1.2.1,⟨hk.1.1.2.2.1,⟨hk.1.1.2.2.2.1,hk.1.1.2.2.2.2⟩⟩⟩)⟩,⟨by (with_reducible repeat (first|refine blk_drewN ?_ _|refine blk_drew ?_|refine blk_alloc ?_ _));exact BK193.out⟩,⟨by (with_reducible repeat (first|refine blk_drewN ?_ _|refine blk_drew ?_|refine blk_alloc ?_ _));exact BK194.out⟩,⟨by (with_reducible repeat (first|refine blk_drewN ?_ _|refine blk_drew ?_|refine blk_alloc ?_ _));exact BK206.out⟩,⟨by repeat (first|(with_reducible first|exact HB.out|apply below_alloc|apply pw_below_drewN|apply below_drew1|refine below_set ?_ GE193.out|refine below_set ?_ GE194.out|refine below_set ?_ GE206.out)|exact HB.out)⟩⟩
         ·rw [if_neg c66] at H
          have c66b0 : (t217 == 0) = false:=beq_eq_false_iff_ne.mpr c66
          have c66b1 : (t217 != 0) = true:=bne_iff_ne.mpr c66
          have H':=Aside0.mk H
          clear H
          go_wp2
          go_meet
          case rel=>exact ⟨_,(false),(by first|rfl|(simp;done)|(simp [*];done)),H',⟨by have:=HJ5.out;first|omega|exact Nat.le_refl _⟩,⟨by (with_reducible repeat (first|apply Kd.N_alloc|apply Kd.N_drewN|apply Kd.N_drew));exact Kd.N_mono HO_207003.out (fun _ hk=>⟨hk.1.1.2.1,⟨hk.1.1.2.2.1,⟨hk.1.1.2.2.2.1,hk.1.1.2.2.2.2⟩⟩⟩)⟩,⟨by (with_reducible repeat (first|apply Kd.N_alloc|apply Kd.N_drewN|apply Kd.N_drew));exact Kd.N_mono HO_207004.out (fun _ hk=>⟨hk.1.1.2.1,⟨hk.1.1.2.2.1,⟨hk.1.1.2.2.2.1,hk.1.1.2.2.2.2⟩⟩⟩)⟩,⟨by (with_reducible repeat (first|refine blk_drewN ?_ _|refine blk_drew ?_|refine blk_alloc ?_ _));exact BK193.out⟩,⟨by (with_reducible repeat (first|refine blk_drewN ?_ _|refine blk_drew ?_|refine blk_alloc ?_ _));exact BK194.out⟩,⟨by (with_reducible repeat (first|refine blk_drewN ?_ _|refine blk_drew ?_|refine blk_alloc ?_ _));exact BK206.out⟩,⟨by repeat (first|(with_reducible first|exact HB.out|apply below_alloc|apply pw_below_drewN|apply below_drew1|refine below_set ?_ GE193.out|refine below_set ?_ GE194.out|refine below_set ?_ GE206.out)|exact HB.out)⟩⟩
       ·rw [if_neg c60] at H
        have c60b0 : (t221 == 0) = false:=beq_eq_false_iff_ne.mpr c60
        have c60b1 : (t221 != 0) = true:=bne_iff_ne.mpr c60
        (first|rw [c60b0]|(simp only [i64_w,i32_w];rw [c60b0])|skip)
        have H':=Aside0.mk H
        clear H
        go_wp2
        go_meet
        case rel=>exact ⟨_,(false),(by first|rfl|(simp;done)|(simp [*];done)),H',⟨by have:=HJ5.out;first|omega|exact Nat.le_refl _⟩,⟨by (with_reducible repeat (first|apply Kd.N_alloc|apply Kd.N_drewN|apply Kd.N_drew));exact Kd.N_mono HO_207003.out (fun _ hk=>⟨hk.1.1.2.1,⟨hk.1.1.2.2.1,⟨hk.1.1.2.2.2.1,hk.1.1.2.2.2.2⟩⟩⟩)⟩,⟨by (with_reducible repeat (first|apply Kd.N_alloc|apply Kd.N_drewN|apply Kd.N_drew));exact Kd.N_mono HO_207004.out (fun _ hk=>⟨hk.1.1.2.1,⟨hk.1.1.2.2.1,⟨hk.1.1.2.2.2.1,hk.1.1.2.2.2.2⟩⟩⟩)⟩,⟨by (with_reducible repeat (first|refine blk_drewN ?_ _|refine blk_drew ?_|refine blk_alloc ?_ _));exact BK193.out⟩,⟨by (with_reducible repeat (first|refine blk_drewN ?_ _|refine blk_drew ?_|refine blk_alloc ?_ _));exact BK194.out⟩,⟨by (with_reducible repeat (first|refine blk_drewN ?_ _|refine blk_drew ?_|refine blk_alloc ?_ _));exact BK206.out⟩,⟨by repeat (first|(with_reducible first|exact HB.out|apply below_alloc|apply pw_below_drewN|apply below_drew1|refine below_set ?_ GE193.out|refine below_set ?_ GE194.out|refine below_set ?_ GE206.out)|exact HB.out)⟩⟩
      case rest =>
       clear HC51
       try clear c1
       try clear c2
       try clear p2
       try clear c3
       try clear c4
       try clear c5
       try clear c6
       try clear c9
       try clear c14
       try clear c15
       try clear c22
       try clear c24
       try clear c26
       try clear c27
       try clear c30
       try clear c34
       try clear c35
       try clear c38
       try clear c41
       try clear c42
       try clear c45
       try clear c46
       try clear c46b0
       try clear c46b1
       try clear c47
       try clear c47b0
       try clear c47b1
       try clear c48
       try clear c48b0
       try clear c48b1
       try clear c52
       try clear c53
       try clear c57
       try clear c60
       try clear c60b0
       try clear c60b1
       try clear c61
       try clear c61b0
       try clear c61b1
       try clear c62
       try clear c62b0
       try clear c62b1
       try clear c66
       try clear c66b0
       try clear c66b1
       try clear hcz10_0
       try clear hcz10_1
       try clear hcz10_2
       try clear hcz10_3
       try clear hcz10_4
       try clear hcz10_5
       try clear hcz11_0
       try clear hcz11_1
       try clear hcz11_2
       try clear hcz11_3
       try clear hcz11_4
       try clear hcz11_5
       try clear hcz16_0
       try clear hcz16_1
       try clear hcz16_2
       try clear hcz16_3
       try clear hcz16_4
       try clear hcz16_5
       try clear hcz19_0
       try clear hcz19_1
       try clear hcz19_2
       try clear hcz19_3
       try clear hcz19_4
       try clear hcz19_5
       try clear hcz28_0
       try clear hcz28_1
       try clear hcz28_2
       try clear hcz28_3
       try clear hcz28_4
       try clear hcz28_5
       try clear hcz31_0
       try clear hcz31_1
       try clear hcz31_2
       try clear hcz31_3
       try clear hcz31_4
       try clear hcz31_5
       try clear hcz33_0
       try clear hcz33_1
       try clear hcz33_2
       try clear hcz33_3
       try clear hcz33_4
       try clear hcz33_5
       try clear hcz36_0
       try clear hcz36_1
       try clear hcz36_2
       try clear hcz36_3
       try clear hcz36_4
       try clear hcz36_5
       try clear hcz39_0
       try clear hcz39_1
       try clear hcz39_2
       try clear hcz39_3
       try clear hcz39_4
       try clear hcz39_5
       try clear hcz43_0
       try clear hcz43_1
       try clear hcz43_2
       try clear hcz43_3
       try clear hcz43_4
       try clear hcz43_5
       try clear hcz54_0
       try clear hcz54_1
       try clear hcz54_2
       try clear hcz54_3
       try clear hcz54_4
       try clear hcz54_5
       try clear hcz58_0
       try clear hcz58_1
       try clear hcz58_2
       try clear hcz58_3
       try clear hcz58_4
       try clear hcz58_5
       try clear hfz10_0
       try clear hfz10_1
       try clear hfz10_2
       try clear hfz10_3
       try clear hfz10_4
       try clear hfz10_5
       try clear hfz11_0
       try clear hfz11_1
       try clear hfz11_2
       try clear hfz11_3
       try clear hfz11_4
       try clear hfz11_5
       try clear hfz16_0
       try clear hfz16_1
       try clear hfz16_2
       try clear hfz16_3
       try clear hfz16_4
       try clear hfz16_5
       try clear hfz19_0
       try clear hfz19_1
       try clear hfz19_2
       try clear hfz19_3
       try clear hfz19_4
       try clear hfz19_5
       try clear hfz28_0
       try clear hfz28_1
       try clear hfz28_2
       try clear hfz28_3
       try clear hfz28_4
       try clear hfz28_5
       try clear hfz31_0
       try clear hfz31_1
       try clear hfz31_2
       try clear hfz31_3
       try clear hfz31_4
       try clear hfz31_5
       try clear hfz33_0
       try clear hfz33_1
       try clear hfz33_2
       try clear hfz33_3
       try clear hfz33_4
       try clear hfz33_5
       try clear hfz36_0
       try clear hfz36_1
       try clear hfz36_2
       try clear hfz36_3
       try clear hfz36_4
       try clear hfz36_5
       try clear hfz39_0
       try clear hfz39_1
       try clear hfz39_2
       try clear hfz39_3
       try clear hfz39_4
       try clear hfz39_5
       try clear hfz43_0
       try clear hfz43_1
       try clear hfz43_2
       try clear hfz43_3
       try clear hfz43_4
       try clear hfz43_5
       try clear hfz54_0
       try clear hfz54_1
       try clear hfz54_2
       try clear hfz54_3
       try clear hfz54_4
       try clear hfz54_5
       try clear hfz58_0
       try clear hfz58_1
       try clear hfz58_2
       try clear hfz58_3
       try clear hfz58_4
       try clear hfz58_5
       try clear p2
       obtain ⟨kq,x6_50,rfl,HA,HJ50,HO_207003,HO_207004,BK193,BK194,BK206,HB⟩:=hcut
       cases kq with
       | zero=>exact absurd HA.out (by simp [coppicerkeep_TurnerThen.j1])
       | succ kj50 =>
        have H:=HA.out
        clear HA
        simp only [coppicerkeep_TurnerThen.j1] at H
        obtain rfl:=Option.some.inj H
        go_wp2
        go_ret
        exact ⟨by first|rfl|(simp [errW_none,errW_some] <;> rfl)|(simp [*,errW_none,errW_some] <;> rfl),by repeat (first|(with_reducible first|exact HB.out|apply below_alloc|apply pw_below_drewN|apply below_drew1|refine below_set ?_ GE193.out|refine below_set ?_ GE194.out|refine below_set ?_ GE206.out)|exact HB.out)⟩
     ·rw [if_neg c48] at H
      have c48b0 : (t205 == 0) = false:=beq_eq_false_iff_ne.mpr c48
      have c48b1 : (t205 != 0) = true:=bne_iff_ne.mpr c48
      obtain rfl:=Option.some.inj H
      have hnb70:=NB206_193.out
      have hnc70:=NB193_206.out
      have hnb71:=NB206_194.out
      have hnc71:=NB194_206.out
      have hcz72_0 : wc.cell? ⟨gb206,0,none⟩ = some (.int .i64 t195):=(blk_cell BK206.out 0).trans rfl
      have hcz72_1 : wc.cell? ⟨gb206,1,none⟩ = some (.int .i64 t196):=(blk_cell BK206.out 1).trans rfl
      have hcz72_2 : wc.cell? ⟨gb206,2,none⟩ = some (.int .i64 t197):=(blk_cell BK206.out 2).trans rfl
      have hcz72_3 : wc.cell? ⟨gb206,3,none⟩ = some (.slice Ao17 t198.length co17):=(blk_cell BK206.out 3).trans rfl
      have hcz72_4 : wc.cell? ⟨gb206,4,none⟩ = some (.slice Ao18 t201.length co18):=(blk_cell BK206.out 4).trans rfl
      have hcz72_5 : wc.cell? ⟨gb206,5,none⟩ = some (.int .i64 t204):=(blk_cell BK206.out 5).trans rfl
      have hfz72_0:=blk_frozen BK206.out 0
      have hfz72_1:=blk_frozen BK206.out 1
      have hfz72_2:=blk_frozen BK206.out 2
      have hfz72_3:=blk_frozen BK206.out 3
      have hfz72_4:=blk_frozen BK206.out 4
      have hfz72_5:=blk_frozen BK206.out 5
      go_wp2
      go_ret
      exact ⟨by first|rfl|(simp [errW_none,errW_some] <;> rfl)|(simp [*,errW_none,errW_some] <;> rfl),by repeat (first|(with_reducible first|exact HB.out|apply below_alloc|apply pw_below_drewN|apply below_drew1|refine below_set ?_ GE193.out|refine below_set ?_ GE194.out|refine below_set ?_ GE206.out)|exact HB.out)⟩
    ·rw [if_neg c47] at H
     have c47b0 : (t210 == 0) = false:=beq_eq_false_iff_ne.mpr c47
     have c47b1 : (t210 != 0) = true:=bne_iff_ne.mpr c47
     obtain rfl:=Option.some.inj H
     go_wp2
     go_ret
     exact ⟨by first|rfl|(simp [errW_none,errW_some] <;> rfl)|(simp [*,errW_none,errW_some] <;> rfl),by repeat (first|(with_reducible first|exact HB.out|apply below_alloc|apply pw_below_drewN|apply below_drew1|refine below_set ?_ GE193.out|refine below_set ?_ GE194.out|refine below_set ?_ GE206.out)|exact HB.out)⟩
/-- THE ONE PURE STATEMENT of coppicerkeep_TurnerThen: yours. -/
def coppicerkeep_TurnerThen.Pure : Prop:=∀ (a0_0 : Int) (a0_1 : Int) (a0_2 : Int) (l0_3 : List (List Int)) (l0_4 : List (List (List Int))) (a0_5 : Int) (a1_0 : Int) (a1_1 : Int) (a1_2 : Int) (l1_3 : List (List Int)) (l1_4 : List (List (List Int))) (a1_5 : Int) (l2 : List Int),((Lit.int .i64 a0_0).wf = true) → ((Lit.int .i64 a0_1).wf = true) → ((Lit.int .i64 a0_2).wf = true) → (l0_3.length ≤ 9223372036854775807 ∧ l0_3.length * 24 ≤ 140737488351232 ∧ ∀ y_ ∈ l0_3,y_.length ≤ 9223372036854775807 ∧ y_.length * 8 ≤ 140737488351232 ∧ ∀ y__ ∈ y_,(Lit.int .i64 y__).wf = true) → (l0_4.length ≤ 9223372036854775807 ∧ l0_4.length * 24 ≤ 140737488351232 ∧ ∀ y_ ∈ l0_4,y_.length ≤ 9223372036854775807 ∧ y_.length * 24 ≤ 140737488351232 ∧ ∀ y__ ∈ y_,y__.length ≤ 9223372036854775807 ∧ y__.length * 8 ≤ 140737488351232 ∧ ∀ y___ ∈ y__,(Lit.int .i64 y___).wf = true) → ((Lit.int .i64 a0_5).wf = true) → ((Lit.int .i64 a1_0).wf = true) → ((Lit.int .i64 a1_1).wf = true) → ((Lit.int .i64 a1_2).wf = true) → (l1_3.length ≤ 9223372036854775807 ∧ l1_3.length * 24 ≤ 140737488351232 ∧ ∀ y_ ∈ l1_3,y_.length ≤ 9223372036854775807 ∧ y_.length * 8 ≤ 140737488351232 ∧ ∀ y__ ∈ y_,(Lit.int .i64 y__).wf = true) → (l1_4.length ≤ 9223372036854775807 ∧ l1_4.length * 24 ≤ 140737488351232 ∧ ∀ y_ ∈ l1_4,y_.length ≤ 9223372036854775807 ∧ y_.length * 24 ≤ 140737488351232 ∧ ∀ y__ ∈ y_,y__.length ≤ 9223372036854775807 ∧ y__.length * 8 ≤ 140737488351232 ∧ ∀ y___ ∈ y__,(Lit.int .i64 y___).wf = true) → ((Lit.int .i64 a1_5).wf = true) → (l2.length ≤ 9223372036854775807 ∧ l2.length * 8 ≤ 140737488351232 ∧ ∀ y_ ∈ l2,(Lit.int .i64 y_).wf = true) → ∃ k,coppicerkeep_TurnerThen.f k a0_0 a0_1 a0_2 l0_3 l0_4 a0_5 a1_0 a1_1 a1_2 l1_3 l1_4 a1_5 l2 = some true
theorem coppicerkeep_TurnerThen.walk (P : coppicerkeep_TurnerThen.Pure) (a0_0 : Int) (a0_1 : Int) (a0_2 : Int) (A0_3 : Option Addr) (l0_3 : List (List Int)) (c0_3 : Nat) (A0_4 : Option Addr) (l0_4 : List (List (List Int))) (c0_4 : Nat) (a0_5 : Int) (a1_0 : Int) (a1_1 : Int) (a1_2 : Int) (A1_3 : Option Addr) (l1_3 : List (List Int)) (c1_3 : Nat) (A1_4 : Option Addr) (l1_4 : List (List (List Int))) (c1_4 : Nat) (a1_5 : Int) (A2 : Option Addr) (l2 : List Int) (c2 : Nat) (w : World) (w0_0 : (Lit.int .i64 a0_0).wf = true) (w0_1 : (Lit.int .i64 a0_1).wf = true) (w0_2 : (Lit.int .i64 a0_2).wf = true) (hr0_3 : Kd.C (Kd.slice 3 (Kd.int .i64)) w A0_3 l0_3.length l0_3) (hc0_3 : l0_3.length ≤ c0_3) (w0_3 : l0_3.length ≤ 9223372036854775807 ∧ l0_3.length * 24 ≤ 140737488351232 ∧ ∀ y_ ∈ l0_3,y_.length ≤ 9223372036854775807 ∧ y_.length * 8 ≤ 140737488351232 ∧ ∀ y__ ∈ y_,(Lit.int .i64 y__).wf = true) (hr0_4 : Kd.C (Kd.slice 26 (Kd.slice 3 (Kd.int .i64))) w A0_4 l0_4.length l0_4) (hc0_4 : l0_4.length ≤ c0_4) (w0_4 : l0_4.length ≤ 9223372036854775807 ∧ l0_4.length * 24 ≤ 140737488351232 ∧ ∀ y_ ∈ l0_4,y_.length ≤ 9223372036854775807 ∧ y_.length * 24 ≤ 140737488351232 ∧ ∀ y__ ∈ y_,y__.length ≤ 9223372036854775807 ∧ y__.length * 8 ≤ 140737488351232 ∧ ∀ y___ ∈ y__,(Lit.int .i64 y___).wf = true) (w0_5 : (Lit.int .i64 a0_5).wf = true) (w1_0 : (Lit.int .i64 a1_0).wf = true) (w1_1 : (Lit.int .i64 a1_1).wf = true) (w1_2 : (Lit.int .i64 a1_2).wf = true) (hr1_3 : Kd.C (Kd.slice 3 (Kd.int .i64)) w A1_3 l1_3.length l1_3) (hc1_3 : l1_3.length ≤ c1_3) (w1_3 : l1_3.length ≤ 9223372036854775807 ∧ l1_3.length * 24 ≤ 140737488351232 ∧ ∀ y_ ∈ l1_3,y_.length ≤ 9223372036854775807 ∧ y_.length * 8 ≤ 140737488351232 ∧ ∀ y__ ∈ y_,(Lit.int .i64 y__).wf = true) (hr1_4 : Kd.C (Kd.slice 26 (Kd.slice 3 (Kd.int .i64))) w A1_4 l1_4.length l1_4) (hc1_4 : l1_4.length ≤ c1_4) (w1_4 : l1_4.length ≤ 9223372036854775807 ∧ l1_4.length * 24 ≤ 140737488351232 ∧ ∀ y_ ∈ l1_4,y_.length ≤ 9223372036854775807 ∧ y_.length * 24 ≤ 140737488351232 ∧ ∀ y__ ∈ y_,y__.length ≤ 9223372036854775807 ∧ y__.length * 8 ≤ 140737488351232 ∧ ∀ y___ ∈ y__,(Lit.int .i64 y___).wf = true) (w1_5 : (Lit.int .i64 a1_5).wf = true) (hr2 : Kd.C (Kd.int .i64) w A2 l2.length l2) (hc2 : l2.length ≤ c2) (w2 : l2.length ≤ 9223372036854775807 ∧ l2.length * 8 ≤ 140737488351232 ∧ ∀ y_ ∈ l2,(Lit.int .i64 y_).wf = true) :
  Calls Try.prog 3 #[.agg #[.int .i64 a0_0,.int .i64 a0_1,.int .i64 a0_2,.slice A0_3 l0_3.length c0_3,.slice A0_4 l0_4.length c0_4,.int .i64 a0_5],.agg #[.int .i64 a1_0,.int .i64 a1_1,.int .i64 a1_2,.slice A1_3 l1_3.length c1_3,.slice A1_4 l1_4.length c1_4,.int .i64 a1_5],.slice A2 l2.length c2] w fun e w'=>e = .returned (.bool true) ∧ Below w.heap.size w w':=by
 obtain ⟨k,h⟩:=P a0_0 a0_1 a0_2 l0_3 l0_4 a0_5 a1_0 a1_1 a1_2 l1_3 l1_4 a1_5 l2 w0_0 w0_1 w0_2 w0_3 w0_4 w0_5 w1_0 w1_1 w1_2 w1_3 w1_4 w1_5 w2
 refine (coppicerkeep_TurnerThen.calls k _ _ _ _ _ _ _ _ _ _ _ _ _ _ _ _ _ _ _ _ _ _ _ true w hr0_3 hc0_3 hr0_4 hc0_4 hr1_3 hc1_3 hr1_4 hc1_4 hr2 hc2 h).mono ?_
 rintro e w' ⟨rfl,hd⟩
 exact ⟨rfl,hd⟩
end Go.Proofs.Ytlkeemcapemkiaa.GA
