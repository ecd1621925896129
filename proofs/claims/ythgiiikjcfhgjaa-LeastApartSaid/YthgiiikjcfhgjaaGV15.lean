-- Written by ext.py, a program of this session.
import Derived.Test.YthgiiikjcfhgjaaGV0
import Derived.Test.YthgiiikjcfhgjaaGV2
import Derived.Test.YthgiiikjcfhgjaaGV14
namespace Go.Proofs.Ythgiiikjcfhgjaa.GV
open Go.RowKit Go.Proofs.YthgiiikjcfhgjaaW.PrintWords Go.Proofs.YthgiiikjcfhgjaaW.PrintLast Go.Proofs.YthgiiikjcfhgjaaW.PrintMore
attribute [local go_sem] max2_int min2_int max_two min_two max_three min_three max_four min_four cellIs_set   -- for this text's walks alone
set_option linter.unusedVariables false
set_option linter.unusedSimpArgs false
/-! ### machine_Run: function 39 -/
def machine_Run.l0 : Nat → Int → List Int → Int → Int → Int → Int → List (List Int) → Int → Int → Option (Int × Bool × Int)
 | 0,_,_,_,_,_,_,_,_,_=>none
 | k + 1,x9,x26,x27,x28,x227000,x227001,x227002,x227003,x227004=>if x28 < x27 then (if 0 ≤ x28 then (if x28 < (x26.length : Int) then (if 0 ≤ x9 then (if x9 < (x227002.length : Int) then (if 0 ≤ (rd x26 x28) then (if (rd x26 x28) < ((rd_L1 x227002 x9).length : Int) then (machine_Run.l0 k (rd (rd_L1 x227002 x9) (rd x26 x28)) x26 x27 (wrap64 (x28 + 1)) x227000 x227001 x227002 x227003 x227004) else (none)) else (none)) else (none)) else (none)) else (none)) else (none)) else (if 0 ≤ x9 then (some (x9,((Go.bits .and .u32 (shr .u32 x227004 x9) 1) == 1),0)) else (none))
def machine_Run.f (k : Nat) (a0_0 : Int) (a0_1 : Int) (l0_2 : List (List Int)) (a0_3 : Int) (a0_4 : Int) (l1 : List Int) : Option (Int × Bool × Int):=(machine_Check.f k a0_0 a0_1 l0_2 a0_3 a0_4).bind fun t227=>(if t227 = 0 then ((machine_Words.f a0_1 l1).bind fun t228=>(if t228 = 0 then (machine_Run.l0 k a0_3 l1 (l1.length : Int) 0 a0_0 a0_1 l0_2 a0_3 a0_4) else (some (0,false,t228)))) else (some (0,false,t227)))
theorem machine_Run.mono_l : ∀ k,(∀ y0 y1 y2 y3 y4 y5 y6 y7 y8,LeO (machine_Run.l0 k y0 y1 y2 y3 y4 y5 y6 y7 y8) (machine_Run.l0 (k + 1) y0 y1 y2 y3 y4 y5 y6 y7 y8))
 | 0=>fun _ _ _ _ _ _ _ _ _ r h=>by simp [machine_Run.l0] at h
 | k + 1=>by
  have ih0:=machine_Run.mono_l k
  ·intro y0 y1 y2 y3 y4 y5 y6 y7 y8
   unfold machine_Run.l0
   repeat' first
   | (with_reducible exact ih0 _ _ _ _ _ _ _ _ _)
   | (with_reducible exact machine_Check.mono _ _ _ _ _ _)
   | (with_reducible exact LeO.refl _)
   | (with_reducible exact LeO.none _)
   | (with_reducible refine LeO.ite ?_ ?_)
   | (with_reducible refine LeO.bind ?_ (fun _=>?_))
   | exact ih0 _ _ _ _ _ _ _ _ _
   | exact machine_Check.mono _ _ _ _ _ _
   | exact LeO.none _
   | refine LeO.ite ?_ ?_
   | refine LeO.bind ?_ (fun _=>?_)
theorem machine_Run.mono : ∀ a0 a1 a2 a3 a4 a5 k,LeO (machine_Run.f k a0 a1 a2 a3 a4 a5) (machine_Run.f (k + 1) a0 a1 a2 a3 a4 a5):=by
 intro a0 a1 a2 a3 a4 a5 k
 have ih0:=machine_Run.mono_l k
 unfold machine_Run.f
 repeat' first
   | (with_reducible exact ih0 _ _ _ _ _ _ _ _ _)
   | (with_reducible exact machine_Check.mono _ _ _ _ _ _)
   | (with_reducible exact LeO.refl _)
   | (with_reducible exact LeO.none _)
   | (with_reducible refine LeO.ite ?_ ?_)
   | (with_reducible refine LeO.bind ?_ (fun _=>?_))
   | exact ih0 _ _ _ _ _ _ _ _ _
   | exact machine_Check.mono _ _ _ _ _ _
   | exact LeO.none _
   | refine LeO.ite ?_ ?_
   | refine LeO.bind ?_ (fun _=>?_)
set_option maxHeartbeats 8000000 in
set_option maxRecDepth 100000 in
theorem machine_Run.calls (k : Nat) (a0_0 : Int) (a0_1 : Int) (A0_2 : Option Addr) (c0_2 : Nat) (l0_2 : List (List Int)) (a0_3 : Int) (a0_4 : Int) (A1 : Option Addr) (c1 : Nat) (l1 : List Int) (r1 : Int) (r2 : Bool) (r3 : Int) (w : World) (hr0_2 : Kd.C (Kd.slice 3 (Kd.int .i64)) w A0_2 l0_2.length l0_2) (hc0_2 : l0_2.length ≤ c0_2) (hr1 : Kd.C (Kd.int .i64) w A1 l1.length l1) (hc1 : l1.length ≤ c1) (h : machine_Run.f k a0_0 a0_1 l0_2 a0_3 a0_4 l1 = some (r1,r2,r3)) :
  Calls Try.prog 39 #[.agg #[.int .i64 a0_0,.int .i64 a0_1,.slice A0_2 l0_2.length c0_2,.int .i64 a0_3,.int .u32 a0_4],.slice A1 l1.length c1] w fun e w'=>e = .returned (.tuple #[.int .i64 r1,.bool r2,.int .i64 r3]) ∧ Below w.heap.size w w':=by
 have hu63:=Try.underlying63
 have HR0_2:=Aside0.mk hr0_2
 have HC0_2:=Aside0.mk hc0_2
 clear hr0_2 hc0_2
 have HR1:=Aside0.mk hr1
 have HC1:=Aside0.mk hc1
 clear hr1 hc1
 have HB:=Aside0.mk (Below.refl w.heap.size w)
 have H : ((machine_Check.f k a0_0 a0_1 l0_2 a0_3 a0_4).bind fun t227=>(if t227 = 0 then ((machine_Words.f a0_1 l1).bind fun t228=>(if t228 = 0 then (machine_Run.l0 k a0_3 l1 (l1.length : Int) 0 a0_0 a0_1 l0_2 a0_3 a0_4) else (some (0,false,t228)))) else (some (0,false,t227)))) = some (r1,r2,r3):=h
 clear h
 replace H:=Option.bind_eq_some_iff.mp H
 obtain ⟨t227,A30,H⟩:=H
 replace H : (if t227 = 0 then ((machine_Words.f a0_1 l1).bind fun t228=>(if t228 = 0 then (machine_Run.l0 k a0_3 l1 (l1.length : Int) 0 a0_0 a0_1 l0_2 a0_3 a0_4) else (some (0,false,t228)))) else (some (0,false,t227))) = some (r1,r2,r3):=H
 have A3:=Aside0.mk A30
 clear A30
 by_cases c4 : t227 = 0
 ·rw [if_pos c4] at H
  have c4b0 : (t227 == 0) = true:=beq_iff_eq.mpr c4
  have c4b1 : (t227 != 0) = false:=bne_eq_false_iff_eq.mpr c4
  clear c4
  replace H:=Option.bind_eq_some_iff.mp H
  obtain ⟨t228,A50,H⟩:=H
  replace H : (if t228 = 0 then (machine_Run.l0 k a0_3 l1 (l1.length : Int) 0 a0_0 a0_1 l0_2 a0_3 a0_4) else (some (0,false,t228))) = some (r1,r2,r3):=H
  have A5:=Aside0.mk A50
  clear A50
  by_cases c6 : t228 = 0
  ·rw [if_pos c6] at H
   have c6b0 : (t228 == 0) = true:=beq_iff_eq.mpr c6
   have c6b1 : (t228 != 0) = false:=bne_eq_false_iff_eq.mpr c6
   clear c6
   have H':=Aside0.mk H
   clear H
   go_enter Try.func39,Try.ntmps39
   go_wp2_with (first|((with_reducible refine gate_dst (N:=2) rfl ?_);refine box_event ?hg (N:=2) ?hd (cs:=#[.int .i64 a0_0,.int .i64 a0_1,.slice A0_2 l0_2.length c0_2,.int .i64 a0_3,.int .u32 a0_4]) (t:=63) ?hr ?_;(case hd=>rfl);(case hg=>rfl);(case hr=>first|(go_simp;done)|(go_simp;rfl));intro gb226 hg w7 hbox hb;have n0_:=Aside0.mk (below_step (by repeat (first|(with_reducible first|exact HB.out|apply below_alloc|apply pw_below_drewN|apply below_drew1)|exact HB.out)) hb);have n1_:=Aside0.mk (hbox);have n2_:=Aside0.mk ((by rw [hg];exact (below_size (by repeat (first|(with_reducible first|exact HB.out|apply below_alloc|apply pw_below_drewN|apply below_drew1)|exact HB.out))) : w.heap.size ≤ gb226));have n3_:=Aside0.mk ((by rw [hg];exact (below_size (by repeat (first|(with_reducible first|exact HB.out|apply below_alloc|apply pw_below_drewN|apply below_drew1)|exact HB.out))) : w.heap.size ≤ gb226));clear HB;have HB:=n0_;have BK226:=n1_;have GW226:=n2_;have GE226:=n3_;clear n0_ n1_ n2_ n3_;clear hb hbox hg;have hcz8_0 : w7.cell? ⟨gb226,0,none⟩ = some (.int .i64 a0_0):=(blk_cell BK226.out 0).trans rfl;have hcz8_1 : w7.cell? ⟨gb226,1,none⟩ = some (.int .i64 a0_1):=(blk_cell BK226.out 1).trans rfl;have hcz8_2 : w7.cell? ⟨gb226,2,none⟩ = some (.slice A0_2 l0_2.length c0_2):=(blk_cell BK226.out 2).trans rfl;have hcz8_3 : w7.cell? ⟨gb226,3,none⟩ = some (.int .i64 a0_3):=(blk_cell BK226.out 3).trans rfl;have hcz8_4 : w7.cell? ⟨gb226,4,none⟩ = some (.int .u32 a0_4):=(blk_cell BK226.out 4).trans rfl;have hfz8_0:=blk_frozen BK226.out 0;have hfz8_1:=blk_frozen BK226.out 1;have hfz8_2:=blk_frozen BK226.out 2;have hfz8_3:=blk_frozen BK226.out 3;have hfz8_4:=blk_frozen BK226.out 4)|(go_at_call 86;(with_reducible refine (machine_Check.calls k a0_0 a0_1 _ _ l0_2 a0_3 a0_4 t227 _ ?side1 ?side2 A3.out).mono ?_);(case side1=>repeat (first|exact (Kd.C_below HR0_2.out HB.out)|(with_reducible refine Kd.C_alloc ?_ _)|(with_reducible refine Kd.C_drewN ?_ _)|(with_reducible refine Kd.C_drew ?_)));(case side2=>exact HC0_2.out);rintro e w9 ⟨rfl,hb⟩;have n0_:=Aside0.mk (blk_below (g:=gb226) (o:=.cells #[.int .i64 a0_0,.int .i64 a0_1,.slice A0_2 l0_2.length c0_2,.int .i64 a0_3,.int .u32 a0_4] 63 (0,0)) (by (with_reducible repeat (first|refine blk_drewN ?_ _|refine blk_drew ?_|refine blk_alloc ?_ _));exact BK226.out) hb);have n1_:=Aside0.mk (below_step (by repeat (first|(with_reducible first|exact HB.out|apply below_alloc|apply pw_below_drewN|apply below_drew1|refine below_set ?_ GE226.out)|exact HB.out)) hb);clear BK226;clear HB;have BK226:=n0_;have HB:=n1_;clear n0_ n1_;(try clear hb);(try clear hb2);(try clear hk);(try clear hi);have hcz10_0 : w9.cell? ⟨gb226,0,none⟩ = some (.int .i64 a0_0):=(blk_cell BK226.out 0).trans rfl;have hcz10_1 : w9.cell? ⟨gb226,1,none⟩ = some (.int .i64 a0_1):=(blk_cell BK226.out 1).trans rfl;have hcz10_2 : w9.cell? ⟨gb226,2,none⟩ = some (.slice A0_2 l0_2.length c0_2):=(blk_cell BK226.out 2).trans rfl;have hcz10_3 : w9.cell? ⟨gb226,3,none⟩ = some (.int .i64 a0_3):=(blk_cell BK226.out 3).trans rfl;have hcz10_4 : w9.cell? ⟨gb226,4,none⟩ = some (.int .u32 a0_4):=(blk_cell BK226.out 4).trans rfl;have hfz10_0:=blk_frozen BK226.out 0;have hfz10_1:=blk_frozen BK226.out 1;have hfz10_2:=blk_frozen BK226.out 2;have hfz10_3:=blk_frozen BK226.out 3;have hfz10_4:=blk_frozen BK226.out 4)|(go_at_call 87;(with_reducible refine (machine_Words.calls a0_1 _ _ l1 t228 _ ?side1 ?side2 A5.out).mono ?_);(case side1=>repeat (first|exact (Kd.C_below HR1.out HB.out)|(with_reducible refine Kd.C_alloc ?_ _)|(with_reducible refine Kd.C_drewN ?_ _)|(with_reducible refine Kd.C_drew ?_)));(case side2=>exact HC1.out);rintro e w11 ⟨rfl,hb⟩;have n0_:=Aside0.mk (blk_below (g:=gb226) (o:=.cells #[.int .i64 a0_0,.int .i64 a0_1,.slice A0_2 l0_2.length c0_2,.int .i64 a0_3,.int .u32 a0_4] 63 (0,0)) (by (with_reducible repeat (first|refine blk_drewN ?_ _|refine blk_drew ?_|refine blk_alloc ?_ _));exact BK226.out) hb);have n1_:=Aside0.mk (below_step (by repeat (first|(with_reducible first|exact HB.out|apply below_alloc|apply pw_below_drewN|apply below_drew1|refine below_set ?_ GE226.out)|exact HB.out)) hb);clear BK226;clear HB;have BK226:=n0_;have HB:=n1_;clear n0_ n1_;(try clear hb);(try clear hb2);(try clear hk);(try clear hi);have hcz12_0 : w11.cell? ⟨gb226,0,none⟩ = some (.int .i64 a0_0):=(blk_cell BK226.out 0).trans rfl;have hcz12_1 : w11.cell? ⟨gb226,1,none⟩ = some (.int .i64 a0_1):=(blk_cell BK226.out 1).trans rfl;have hcz12_2 : w11.cell? ⟨gb226,2,none⟩ = some (.slice A0_2 l0_2.length c0_2):=(blk_cell BK226.out 2).trans rfl;have hcz12_3 : w11.cell? ⟨gb226,3,none⟩ = some (.int .i64 a0_3):=(blk_cell BK226.out 3).trans rfl;have hcz12_4 : w11.cell? ⟨gb226,4,none⟩ = some (.int .u32 a0_4):=(blk_cell BK226.out 4).trans rfl;have hfz12_0:=blk_frozen BK226.out 0;have hfz12_1:=blk_frozen BK226.out 1;have hfz12_2:=blk_frozen BK226.out 2;have hfz12_3:=blk_frozen BK226.out 3;have hfz12_4:=blk_frozen BK226.out 4))
   repeat (go_quiet (first|((with_reducible refine gate_dst (N:=2) rfl ?_);refine box_event ?hg (N:=2) ?hd (cs:=#[.int .i64 a0_0,.int .i64 a0_1,.slice A0_2 l0_2.length c0_2,.int .i64 a0_3,.int .u32 a0_4]) (t:=63) ?hr ?_;(case hd=>rfl);(case hg=>rfl);(case hr=>first|(go_simp;done)|(go_simp;rfl));intro gb226 hg w7 hbox hb;have n0_:=Aside0.mk (below_step (by repeat (first|(with_reducible first|exact HB.out|apply below_alloc|apply pw_below_drewN|apply below_drew1)|exact HB.out)) hb);have n1_:=Aside0.mk (hbox);have n2_:=Aside0.mk ((by rw [hg];exact (below_size (by repeat (first|(with_reducible first|exact HB.out|apply below_alloc|apply pw_below_drewN|apply below_drew1)|exact HB.out))) : w.heap.size ≤ gb226));have n3_:=Aside0.mk ((by rw [hg];exact (below_size (by repeat (first|(with_reducible first|exact HB.out|apply below_alloc|apply pw_below_drewN|apply below_drew1)|exact HB.out))) : w.heap.size ≤ gb226));clear HB;have HB:=n0_;have BK226:=n1_;have GW226:=n2_;have GE226:=n3_;clear n0_ n1_ n2_ n3_;clear hb hbox hg;have hcz8_0 : w7.cell? ⟨gb226,0,none⟩ = some (.int .i64 a0_0):=(blk_cell BK226.out 0).trans rfl;have hcz8_1 : w7.cell? ⟨gb226,1,none⟩ = some (.int .i64 a0_1):=(blk_cell BK226.out 1).trans rfl;have hcz8_2 : w7.cell? ⟨gb226,2,none⟩ = some (.slice A0_2 l0_2.length c0_2):=(blk_cell BK226.out 2).trans rfl;have hcz8_3 : w7.cell? ⟨gb226,3,none⟩ = some (.int .i64 a0_3):=(blk_cell BK226.out 3).trans rfl;have hcz8_4 : w7.cell? ⟨gb226,4,none⟩ = some (.int .u32 a0_4):=(blk_cell BK226.out 4).trans rfl;have hfz8_0:=blk_frozen BK226.out 0;have hfz8_1:=blk_frozen BK226.out 1;have hfz8_2:=blk_frozen BK226.out 2;have hfz8_3:=blk_frozen BK226.out 3;have hfz8_4:=blk_frozen BK226.out 4)|(go_at_call 86;(with_reducible refine (machine_Check.calls k a0_0 a0_1 _ _ l0_2 a0_3 a0_4 t227 _ ?side1 ?side2 A3.out).mono ?_);(case side1=>repeat (first|exact (Kd.C_below HR0_2.out HB.out)|(with_reducible refine Kd.C_alloc ?_ _)|(with_reducible refine Kd.C_drewN ?_ _)|(with_reducible refine Kd.C_drew ?_)));(case side2=>exact HC0_2.out);rintro e w9 ⟨rfl,hb⟩;have n0_:=Aside0.mk (blk_below (g:=gb226) (o:=.cells #[.int .i64 a0_0,.int .i64 a0_1,.slice A0_2 l0_2.length c0_2,.int .i64 a0_3,.int .u32 a0_4] 63 (0,0)) (by (with_reducible repeat (first|refine blk_drewN ?_ _|refine blk_drew ?_|refine blk_alloc ?_ _));exact BK226.out) hb);have n1_:=Aside0.mk (below_step (by repeat (first|(with_reducible first|exact HB.out|apply below_alloc|apply pw_below_drewN|apply below_drew1|refine below_set ?_ GE226.out)|exact HB.out)) hb);clear BK226;clear HB;have BK226:=n0_;have HB:=n1_;clear n0_ n1_;(try clear hb);(try clear hb2);(try clear hk);(try clear hi);have hcz10_0 : w9.cell? ⟨gb226,0,none⟩ = some (.int .i64 a0_0):=(blk_cell BK226.out 0).trans rfl;have hcz10_1 : w9.cell? ⟨gb226,1,none⟩ = some (.int .i64 a0_1):=(blk_cell BK226.out 1).trans rfl;have hcz10_2 : w9.cell? ⟨gb226,2,none⟩ = some (.slice A0_2 l0_2.length c0_2):=(blk_cell BK226.out 2).trans rfl;have hcz10_3 : w9.cell? ⟨gb226,3,none⟩ = some (.int .i64 a0_3):=(blk_cell BK226.out 3).trans rfl;have hcz10_4 : w9.cell? ⟨gb226,4,none⟩ = some (.int .u32 a0_4):=(blk_cell BK226.out 4).trans rfl;have hfz10_0:=blk_frozen BK226.out 0;have hfz10_1:=blk_frozen BK226.out 1;have hfz10_2:=blk_frozen BK226.out 2;have hfz10_3:=blk_frozen BK226.out 3;have hfz10_4:=blk_frozen BK226.out 4)|(go_at_call 87;(with_reducible refine (machine_Words.calls a0_1 _ _ l1 t228 _ ?side1 ?side2 A5.out).mono ?_);(case side1=>repeat (first|exact (Kd.C_below HR1.out HB.out)|(with_reducible refine Kd.C_alloc ?_ _)|(with_reducible refine Kd.C_drewN ?_ _)|(with_reducible refine Kd.C_drew ?_)));(case side2=>exact HC1.out);rintro e w11 ⟨rfl,hb⟩;have n0_:=Aside0.mk (blk_below (g:=gb226) (o:=.cells #[.int .i64 a0_0,.int .i64 a0_1,.slice A0_2 l0_2.length c0_2,.int .i64 a0_3,.int .u32 a0_4] 63 (0,0)) (by (with_reducible repeat (first|refine blk_drewN ?_ _|refine blk_drew ?_|refine blk_alloc ?_ _));exact BK226.out) hb);have n1_:=Aside0.mk (below_step (by repeat (first|(with_reducible first|exact HB.out|apply below_alloc|apply pw_below_drewN|apply below_drew1|refine below_set ?_ GE226.out)|exact HB.out)) hb);clear BK226;clear HB;have BK226:=n0_;have HB:=n1_;clear n0_ n1_;(try clear hb);(try clear hb2);(try clear hk);(try clear hi);have hcz12_0 : w11.cell? ⟨gb226,0,none⟩ = some (.int .i64 a0_0):=(blk_cell BK226.out 0).trans rfl;have hcz12_1 : w11.cell? ⟨gb226,1,none⟩ = some (.int .i64 a0_1):=(blk_cell BK226.out 1).trans rfl;have hcz12_2 : w11.cell? ⟨gb226,2,none⟩ = some (.slice A0_2 l0_2.length c0_2):=(blk_cell BK226.out 2).trans rfl;have hcz12_3 : w11.cell? ⟨gb226,3,none⟩ = some (.int .i64 a0_3):=(blk_cell BK226.out 3).trans rfl;have hcz12_4 : w11.cell? ⟨gb226,4,none⟩ = some (.int .u32 a0_4):=(blk_cell BK226.out 4).trans rfl;have hfz12_0:=blk_frozen BK226.out 0;have hfz12_1:=blk_frozen BK226.out 1;have hfz12_2:=blk_frozen BK226.out 2;have hfz12_3:=blk_frozen BK226.out 3;have hfz12_4:=blk_frozen BK226.out 4));try go_wp2_with (first|((with_reducible refine gate_dst (N:=2) rfl ?_);refine box_event ?hg (N:=2) ?hd (cs:=#[.int .i64 a0_0,.int .i64 a0_1,.slice A0_2 l0_2.length c0_2,.int .i64 a0_3,.int .u32 a0_4]) (t:=63) ?hr ?_;(case hd=>rfl);(case hg=>rfl);(case hr=>first|(go_simp;done)|(go_simp;rfl));intro gb226 hg w7 hbox hb;have n0_:=Aside0.mk (below_step (by repeat (first|(with_reducible first|exact HB.out|apply below_alloc|apply pw_below_drewN|apply below_drew1)|exact HB.out)) hb);have n1_:=Aside0.mk (hbox);have n2_:=Aside0.mk ((by rw [hg];exact (below_size (by repeat (first|(with_reducible first|exact HB.out|apply below_alloc|apply pw_below_drewN|apply below_drew1)|exact HB.out))) : w.heap.size ≤ gb226));have n3_:=Aside0.mk ((by rw [hg];exact (below_size (by repeat (first|(with_reducible first|exact HB.out|apply below_alloc|apply pw_below_drewN|apply below_drew1)|exact HB.out))) : w.heap.size ≤ gb226));clear HB;have HB:=n0_;have BK226:=n1_;have GW226:=n2_;have GE226:=n3_;clear n0_ n1_ n2_ n3_;clear hb hbox hg;have hcz8_0 : w7.cell? ⟨gb226,0,none⟩ = some (.int .i64 a0_0):=(blk_cell BK226.out 0).trans rfl;have hcz8_1 : w7.cell? ⟨gb226,1,none⟩ = some (.int .i64 a0_1):=(blk_cell BK226.out 1).trans rfl;have hcz8_2 : w7.cell? ⟨gb226,2,none⟩ = some (.slice A0_2 l0_2.length c0_2):=(blk_cell BK226.out 2).trans rfl;have hcz8_3 : w7.cell? ⟨gb226,3,none⟩ = some (.int .i64 a0_3):=(blk_cell BK226.out 3).trans rfl;have hcz8_4 : w7.cell? ⟨gb226,4,none⟩ = some (.int .u32 a0_4):=(blk_cell BK226.out 4).trans rfl;have hfz8_0:=blk_frozen BK226.out 0;have hfz8_1:=blk_frozen BK226.out 1;have hfz8_2:=blk_frozen BK226.out 2;have hfz8_3:=blk_frozen BK226.out 3;have hfz8_4:=blk_frozen BK226.out 4)|(go_at_call 86;(with_reducible refine (machine_Check.calls k a0_0 a0_1 _ _ l0_2 a0_3 a0_4 t227 _ ?side1 ?side2 A3.out).mono ?_);(case side1=>repeat (first|exact (Kd.C_below HR0_2.out HB.out)|(with_reducible refine Kd.C_alloc ?_ _)|(with_reducible refine Kd.C_drewN ?_ _)|(with_reducible refine Kd.C_drew ?_)));(case side2=>exact HC0_2.out);rintro e w9 ⟨rfl,hb⟩;have n0_:=Aside0.mk (blk_below (g:=gb226) (o:=.cells #[.int .i64 a0_0,.int .i64 a0_1,.slice A0_2 l0_2.length c0_2,.int .i64 a0_3,.int .u32 a0_4] 63 (0,0)) (by (with_reducible repeat (first|refine blk_drewN ?_ _|refine blk_drew ?_|refine blk_alloc ?_ _));exact BK226.out) hb);have n1_:=Aside0.mk (below_step (by repeat (first|(with_reducible first|exact HB.out|apply below_alloc|apply pw_below_drewN|apply below_drew1|refine below_set ?_ GE226.out)|exact HB.out)) hb);clear BK226;clear HB;have BK226:=n0_;have HB:=n1_;clear n0_ n1_;(try clear hb);(try clear hb2);(try clear hk);(try clear hi);have hcz10_0 : w9.cell? ⟨gb226,0,none⟩ = some (.int .i64 a0_0):=(blk_cell BK226.out 0).trans rfl;have hcz10_1 : w9.cell? ⟨gb226,1,none⟩ = some (.int .i64 a0_1):=(blk_cell BK226.out 1).trans rfl;have hcz10_2 : w9.cell? ⟨gb226,2,none⟩ = some (.slice A0_2 l0_2.length c0_2):=(blk_cell BK226.out 2).trans rfl;have hcz10_3 : w9.cell? ⟨gb226,3,none⟩ = some (.int .i64 a0_3):=(blk_cell BK226.out 3).trans rfl;have hcz10_4 : w9.cell? ⟨gb226,4,none⟩ = some (.int .u32 a0_4):=(blk_cell BK226.out 4).trans rfl;have hfz10_0:=blk_frozen BK226.out 0;have hfz10_1:=blk_frozen BK226.out 1;have hfz10_2:=blk_frozen BK226.out 2;have hfz10_3:=blk_frozen BK226.out 3;have hfz10_4:=blk_frozen BK226.out 4)|(go_at_call 87;(with_reducible refine (machine_Words.calls a0_1 _ _ l1 t228 _ ?side1 ?side2 A5.out).mono ?_);(case side1=>repeat (first|exact (Kd.C_below HR1.out HB.out)|(with_reducible refine Kd.C_alloc ?_ _)|(with_reducible refine Kd.C_drewN ?_ _)|(with_reducible refine Kd.C_drew ?_)));(case side2=>exact HC1.out);rintro e w11 ⟨rfl,hb⟩;have n0_:=Aside0.mk (blk_below (g:=gb226) (o:=.cells #[.int .i64 a0_0,.int .i64 a0_1,.slice A0_2 l0_2.length c0_2,.int .i64 a0_3,.int .u32 a0_4] 63 (0,0)) (by (with_reducible repeat (first|refine blk_drewN ?_ _|refine blk_drew ?_|refine blk_alloc ?_ _));exact BK226.out) hb);have n1_:=Aside0.mk (below_step (by repeat (first|(with_reducible first|exact HB.out|apply below_alloc|apply pw_below_drewN|apply below_drew1|refine below_set ?_ GE226.out)|exact HB.out)) hb);clear BK226;clear HB;have BK226:=n0_;have HB:=n1_;clear n0_ n1_;(try clear hb);(try clear hb2);(try clear hk);(try clear hi);have hcz12_0 : w11.cell? ⟨gb226,0,none⟩ = some (.int .i64 a0_0):=(blk_cell BK226.out 0).trans rfl;have hcz12_1 : w11.cell? ⟨gb226,1,none⟩ = some (.int .i64 a0_1):=(blk_cell BK226.out 1).trans rfl;have hcz12_2 : w11.cell? ⟨gb226,2,none⟩ = some (.slice A0_2 l0_2.length c0_2):=(blk_cell BK226.out 2).trans rfl;have hcz12_3 : w11.cell? ⟨gb226,3,none⟩ = some (.int .i64 a0_3):=(blk_cell BK226.out 3).trans rfl;have hcz12_4 : w11.cell? ⟨gb226,4,none⟩ = some (.int .u32 a0_4):=(blk_cell BK226.out 4).trans rfl;have hfz12_0:=blk_frozen BK226.out 0;have hfz12_1:=blk_frozen BK226.out 1;have hfz12_2:=blk_frozen BK226.out 2;have hfz12_3:=blk_frozen BK226.out 3;have hfz12_4:=blk_frozen BK226.out 4)))
   go_loopg [9,28] k (fun kq v9 v28 w'=>∃ (x9_1 : Int) (x28_1 : Int),v9 = .int .i64 x9_1 ∧ v28 = .int .i64 x28_1 ∧ Aside0 (machine_Run.l0 kq x9_1 l1 (l1.length : Int) x28_1 a0_0 a0_1 l0_2 a0_3 a0_4 = some (r1,r2,r3)) ∧ Aside0 (kq ≤ k) ∧ Aside0 (w'.heap[gb226]? = some (.cells #[.int .i64 a0_0,.int .i64 a0_1,(.slice A0_2 l0_2.length c0_2),.int .i64 a0_3,.int .u32 a0_4] 63 (0,0))) ∧ Aside0 (Below w.heap.size w w'))
   case atStart=>exact ⟨(a0_3),(0),(by first|rfl|(simp;done)|(simp [*];done)),(by first|rfl|(simp;done)|(simp [*];done)),H',⟨Nat.le_refl _⟩,⟨by (with_reducible repeat (first|refine blk_drewN ?_ _|refine blk_drew ?_|refine blk_alloc ?_ _));exact BK226.out⟩,⟨by repeat (first|(with_reducible first|exact HB.out|apply below_alloc|apply pw_below_drewN|apply below_drew1|refine below_set ?_ GE226.out)|exact HB.out)⟩⟩
   case round =>
    clear H'
    try clear c1
    try clear p2
    try clear c3
    try clear c4
    try clear c4b0
    try clear c4b1
    try clear c6
    try clear c6b0
    try clear c6b1
    try clear hcz10_0
    try clear hcz10_1
    try clear hcz10_2
    try clear hcz10_3
    try clear hcz10_4
    try clear hcz12_0
    try clear hcz12_1
    try clear hcz12_2
    try clear hcz12_3
    try clear hcz12_4
    try clear hcz8_0
    try clear hcz8_1
    try clear hcz8_2
    try clear hcz8_3
    try clear hcz8_4
    try clear hfz10_0
    try clear hfz10_1
    try clear hfz10_2
    try clear hfz10_3
    try clear hfz10_4
    try clear hfz12_0
    try clear hfz12_1
    try clear hfz12_2
    try clear hfz12_3
    try clear hfz12_4
    try clear hfz8_0
    try clear hfz8_1
    try clear hfz8_2
    try clear hfz8_3
    try clear hfz8_4
    obtain ⟨x9_1,x28_1,rfl,rfl,HA,HK1,BK226,HB⟩:=hrel
    cases gk with
    | zero=>exact absurd HA.out (by simp [machine_Run.l0])
    | succ k1 =>
     have H:=HA.out
     clear HA
     simp only [machine_Run.l0] at H
     by_cases c13 : x28_1 < (l1.length : Int)
     ·rw [if_pos c13] at H
      have c13b0 : decide (x28_1 < (l1.length : Int)) = true:=decide_eq_true c13
      clear c13
      by_cases c14 : 0 ≤ x28_1
      ·rw [if_pos c14] at H
       have c14b0 : decide (0 ≤ x28_1) = true:=decide_eq_true c14
       clear c14
       by_cases c15 : x28_1 < (l1.length : Int)
       ·rw [if_pos c15] at H
        have c15b0 : decide (x28_1 < (l1.length : Int)) = true:=decide_eq_true c15
        clear c15
        by_cases c16 : 0 ≤ x9_1
        ·rw [if_pos c16] at H
         have c16b0 : decide (0 ≤ x9_1) = true:=decide_eq_true c16
         clear c16
         by_cases c17 : x9_1 < (l0_2.length : Int)
         ·rw [if_pos c17] at H
          have c17b0 : decide (x9_1 < (l0_2.length : Int)) = true:=decide_eq_true c17
          clear c17
          by_cases c18 : 0 ≤ (rd l1 x28_1)
          ·rw [if_pos c18] at H
           have c18b0 : decide (0 ≤ (rd l1 x28_1)) = true:=decide_eq_true c18
           clear c18
           by_cases c19 : (rd l1 x28_1) < ((rd_L1 l0_2 x9_1).length : Int)
           ·rw [if_pos c19] at H
            have c19b0 : decide ((rd l1 x28_1) < ((rd_L1 l0_2 x9_1).length : Int)) = true:=decide_eq_true c19
            clear c19
            have H':=Aside0.mk H
            clear H
            have p229 : 0 ≤ (x28_1 : Int):=of_decide_eq_true (by first|(with_reducible assumption)|assumption)
            have q229 : x28_1 < (l1.length : Int):=of_decide_eq_true (by first|(with_reducible assumption)|assumption)
            obtain ⟨ad229,e229,hx229_0⟩:=Kd.at_int HR1.out x28_1 p229 q229
            cases e229
            replace hx229_0:=(HB.out.cell (World.block_lt_of_cell? w _ hx229_0)).trans hx229_0
            replace p229:=eq_true p229
            replace q229:=eq_true q229
            have hcz20_0 : wr.cell? ⟨gb226,0,none⟩ = some (.int .i64 a0_0):=(blk_cell BK226.out 0).trans rfl
            have hcz20_1 : wr.cell? ⟨gb226,1,none⟩ = some (.int .i64 a0_1):=(blk_cell BK226.out 1).trans rfl
            have hcz20_2 : wr.cell? ⟨gb226,2,none⟩ = some (.slice A0_2 l0_2.length c0_2):=(blk_cell BK226.out 2).trans rfl
            have hcz20_3 : wr.cell? ⟨gb226,3,none⟩ = some (.int .i64 a0_3):=(blk_cell BK226.out 3).trans rfl
            have hcz20_4 : wr.cell? ⟨gb226,4,none⟩ = some (.int .u32 a0_4):=(blk_cell BK226.out 4).trans rfl
            have hfz20_0:=blk_frozen BK226.out 0
            have hfz20_1:=blk_frozen BK226.out 1
            have hfz20_2:=blk_frozen BK226.out 2
            have hfz20_3:=blk_frozen BK226.out 3
            have hfz20_4:=blk_frozen BK226.out 4
            have p230 : 0 ≤ (x9_1 : Int):=of_decide_eq_true (by first|(with_reducible assumption)|assumption)
            have q230 : x9_1 < (l0_2.length : Int):=of_decide_eq_true (by first|(with_reducible assumption)|assumption)
            obtain ⟨ad230,A230_0,c230_0,e230,hx230_0,hl230_0,hi230_0⟩:=at_L1 HR0_2.out x9_1 p230 q230
            cases e230
            replace hx230_0:=(HB.out.cell (World.block_lt_of_cell? w _ hx230_0)).trans hx230_0
            have HR230_0:=Aside0.mk hi230_0
            have HC230_0:=Aside0.mk hl230_0
            clear hi230_0 hl230_0
            replace p230:=eq_true p230
            replace q230:=eq_true q230
            have p231 : 0 ≤ ((rd l1 x28_1) : Int):=of_decide_eq_true (by first|(with_reducible assumption)|assumption)
            have q231 : (rd l1 x28_1) < ((rd_L1 l0_2 x9_1).length : Int):=of_decide_eq_true (by first|(with_reducible assumption)|assumption)
            obtain ⟨ad231,e231,hx231_0⟩:=Kd.at_int HR230_0.out (rd l1 x28_1) p231 q231
            cases e231
            replace hx231_0:=(HB.out.cell (World.block_lt_of_cell? w _ hx231_0)).trans hx231_0
            replace p231:=eq_true p231
            replace q231:=eq_true q231
            go_wp2
            repeat (go_quiet (fail);try go_wp2)
            go_roundg k1
            case measure=>have:=HK1.out;omega
            case rel=>exact ⟨(rd (rd_L1 l0_2 x9_1) (rd l1 x28_1)),(wrap64 (x28_1 + 1)),(by first|rfl|(simp;done)|(simp [*];done)),(by first|rfl|(simp;done)|(simp [*];done)),H',⟨by have:=HK1.out;omega⟩,⟨by (with_reducible repeat (first|refine blk_drewN ?_ _|refine blk_drew ?_|refine blk_alloc ?_ _));exact BK226.out⟩,⟨by repeat (first|(with_reducible first|exact HB.out|apply below_alloc|apply pw_below_drewN|apply below_drew1|refine below_set ?_ GE226.out)|exact HB.out)⟩⟩
           ·rw [if_neg c19] at H
            exact absurd H (by simp)
          ·rw [if_neg c18] at H
           exact absurd H (by simp)
         ·rw [if_neg c17] at H
          exact absurd H (by simp)
        ·rw [if_neg c16] at H
         exact absurd H (by simp)
       ·rw [if_neg c15] at H
        exact absurd H (by simp)
      ·rw [if_neg c14] at H
       exact absurd H (by simp)
     ·rw [if_neg c13] at H
      have c13b0 : decide (x28_1 < (l1.length : Int)) = false:=decide_eq_false c13
      clear c13
      by_cases c21 : 0 ≤ x9_1
      ·rw [if_pos c21] at H
       have c21b0:=eq_true c21
       have c21b1 : decide (0 ≤ x9_1) = true:=decide_eq_true c21
       clear c21
       obtain ⟨ji22,hji22⟩ : ∃ j_ : Int,(shr .u32 a0_4 x9_1) = j_:=⟨_,rfl⟩
       replace H : (some (x9_1,((Go.bits .and .u32 (ji22) 1) == 1),0)) = some (r1,r2,r3):=by first|(rw [hji22] at H;exact H)|(simp only [hji22] at H ⊢;exact H)
       have hji22_ : (a0_4 / 2 ^ min x9_1.toNat 32) = ji22:=hji22
       have hji22z : x9_1 ≤ 32 → (a0_4 / 2 ^ x9_1.toNat) = ji22:=shr_small hji22
       simp only [Option.some.injEq,Prod.mk.injEq] at H
       obtain ⟨rfl,rfl,rfl⟩:=H
       have hcz23_0 : wr.cell? ⟨gb226,0,none⟩ = some (.int .i64 a0_0):=(blk_cell BK226.out 0).trans rfl
       have hcz23_1 : wr.cell? ⟨gb226,1,none⟩ = some (.int .i64 a0_1):=(blk_cell BK226.out 1).trans rfl
       have hcz23_2 : wr.cell? ⟨gb226,2,none⟩ = some (.slice A0_2 l0_2.length c0_2):=(blk_cell BK226.out 2).trans rfl
       have hcz23_3 : wr.cell? ⟨gb226,3,none⟩ = some (.int .i64 a0_3):=(blk_cell BK226.out 3).trans rfl
       have hcz23_4 : wr.cell? ⟨gb226,4,none⟩ = some (.int .u32 a0_4):=(blk_cell BK226.out 4).trans rfl
       have hfz23_0:=blk_frozen BK226.out 0
       have hfz23_1:=blk_frozen BK226.out 1
       have hfz23_2:=blk_frozen BK226.out 2
       have hfz23_3:=blk_frozen BK226.out 3
       have hfz23_4:=blk_frozen BK226.out 4
       go_wp2
       repeat (go_quiet (fail);try go_wp2)
       go_ret3
       exact ⟨by first|rfl|(simp [errW_none,errW_some] <;> rfl)|(simp only [← hji22];first|rfl|(simp [errW_none,errW_some] <;> rfl))|(simp [*,errW_none,errW_some] <;> rfl),by repeat (first|(with_reducible first|exact HB.out|apply below_alloc|apply pw_below_drewN|apply below_drew1|refine below_set ?_ GE226.out)|exact HB.out)⟩
      ·rw [if_neg c21] at H
       exact absurd H (by simp)
  ·rw [if_neg c6] at H
   have c6b0 : (t228 == 0) = false:=beq_eq_false_iff_ne.mpr c6
   have c6b1 : (t228 != 0) = true:=bne_iff_ne.mpr c6
   simp only [Option.some.injEq,Prod.mk.injEq] at H
   obtain ⟨rfl,rfl,rfl⟩:=H
   go_enter Try.func39,Try.ntmps39
   go_wp2_with (first|((with_reducible refine gate_dst (N:=2) rfl ?_);refine box_event ?hg (N:=2) ?hd (cs:=#[.int .i64 a0_0,.int .i64 a0_1,.slice A0_2 l0_2.length c0_2,.int .i64 a0_3,.int .u32 a0_4]) (t:=63) ?hr ?_;(case hd=>rfl);(case hg=>rfl);(case hr=>first|(go_simp;done)|(go_simp;rfl));intro gb226 hg w24 hbox hb;have n0_:=Aside0.mk (below_step (by repeat (first|(with_reducible first|exact HB.out|apply below_alloc|apply pw_below_drewN|apply below_drew1)|exact HB.out)) hb);have n1_:=Aside0.mk (hbox);have n2_:=Aside0.mk ((by rw [hg];exact (below_size (by repeat (first|(with_reducible first|exact HB.out|apply below_alloc|apply pw_below_drewN|apply below_drew1)|exact HB.out))) : w.heap.size ≤ gb226));have n3_:=Aside0.mk ((by rw [hg];exact (below_size (by repeat (first|(with_reducible first|exact HB.out|apply below_alloc|apply pw_below_drewN|apply below_drew1)|exact HB.out))) : w.heap.size ≤ gb226));clear HB;have HB:=n0_;have BK226:=n1_;have GW226:=n2_;have GE226:=n3_;clear n0_ n1_ n2_ n3_;clear hb hbox hg;have hcz25_0 : w24.cell? ⟨gb226,0,none⟩ = some (.int .i64 a0_0):=(blk_cell BK226.out 0).trans rfl;have hcz25_1 : w24.cell? ⟨gb226,1,none⟩ = some (.int .i64 a0_1):=(blk_cell BK226.out 1).trans rfl;have hcz25_2 : w24.cell? ⟨gb226,2,none⟩ = some (.slice A0_2 l0_2.length c0_2):=(blk_cell BK226.out 2).trans rfl;have hcz25_3 : w24.cell? ⟨gb226,3,none⟩ = some (.int .i64 a0_3):=(blk_cell BK226.out 3).trans rfl;have hcz25_4 : w24.cell? ⟨gb226,4,none⟩ = some (.int .u32 a0_4):=(blk_cell BK226.out 4).trans rfl;have hfz25_0:=blk_frozen BK226.out 0;have hfz25_1:=blk_frozen BK226.out 1;have hfz25_2:=blk_frozen BK226.out 2;have hfz25_3:=blk_frozen BK226.out 3;have hfz25_4:=blk_frozen BK226.out 4)|(go_at_call 86;(with_reducible refine (machine_Check.calls k a0_0 a0_1 _ _ l0_2 a0_3 a0_4 t227 _ ?side1 ?side2 A3.out).mono ?_);(case side1=>repeat (first|exact (Kd.C_below HR0_2.out HB.out)|(with_reducible refine Kd.C_alloc ?_ _)|(with_reducible refine Kd.C_drewN ?_ _)|(with_reducible refine Kd.C_drew ?_)));(case side2=>exact HC0_2.out);rintro e w26 ⟨rfl,hb⟩;have n0_:=Aside0.mk (blk_below (g:=gb226) (o:=.cells #[.int .i64 a0_0,.int .i64 a0_1,.slice A0_2 l0_2.length c0_2,.int .i64 a0_3,.int .u32 a0_4] 63 (0,0)) (by (with_reducible repeat (first|refine blk_drewN ?_ _|refine blk_drew ?_|refine blk_alloc ?_ _));exact BK226.out) hb);have n1_:=Aside0.mk (below_step (by repeat (first|(with_reducible first|exact HB.out|apply below_alloc|apply pw_below_drewN|apply below_drew1|refine below_set ?_ GE226.out)|exact HB.out)) hb);clear BK226;clear HB;have BK226:=n0_;have HB:=n1_;clear n0_ n1_;(try clear hb);(try clear hb2);(try clear hk);(try clear hi);have hcz27_0 : w26.cell? ⟨gb226,0,none⟩ = some (.int .i64 a0_0):=(blk_cell BK226.out 0).trans rfl;have hcz27_1 : w26.cell? ⟨gb226,1,none⟩ = some (.int .i64 a0_1):=(blk_cell BK226.out 1).trans rfl;have hcz27_2 : w26.cell? ⟨gb226,2,none⟩ = some (.slice A0_2 l0_2.length c0_2):=(blk_cell BK226.out 2).trans rfl;have hcz27_3 : w26.cell? ⟨gb226,3,none⟩ = some (.int .i64 a0_3):=(blk_cell BK226.out 3).trans rfl;have hcz27_4 : w26.cell? ⟨gb226,4,none⟩ = some (.int .u32 a0_4):=(blk_cell BK226.out 4).trans rfl;have hfz27_0:=blk_frozen BK226.out 0;have hfz27_1:=blk_frozen BK226.out 1;have hfz27_2:=blk_frozen BK226.out 2;have hfz27_3:=blk_frozen BK226.out 3;have hfz27_4:=blk_frozen BK226.out 4)|(go_at_call 87;(with_reducible refine (machine_Words.calls a0_1 _ _ l1 t228 _ ?side1 ?side2 A5.out).mono ?_);(case side1=>repeat (first|exact (Kd.C_below HR1.out HB.out)|(with_reducible refine Kd.C_alloc ?_ _)|(with_reducible refine Kd.C_drewN ?_ _)|(with_reducible refine Kd.C_drew ?_)));(case side2=>exact HC1.out);rintro e w28 ⟨rfl,hb⟩;have n0_:=Aside0.mk (blk_below (g:=gb226) (o:=.cells #[.int .i64 a0_0,.int .i64 a0_1,.slice A0_2 l0_2.length c0_2,.int .i64 a0_3,.int .u32 a0_4] 63 (0,0)) (by (with_reducible repeat (first|refine blk_drewN ?_ _|refine blk_drew ?_|refine blk_alloc ?_ _));exact BK226.out) hb);have n1_:=Aside0.mk (below_step (by repeat (first|(with_reducible first|exact HB.out|apply below_alloc|apply pw_below_drewN|apply below_drew1|refine below_set ?_ GE226.out)|exact HB.out)) hb);clear BK226;clear HB;have BK226:=n0_;have HB:=n1_;clear n0_ n1_;(try clear hb);(try clear hb2);(try clear hk);(try clear hi)))
   repeat (go_quiet (first|((with_reducible refine gate_dst (N:=2) rfl ?_);refine box_event ?hg (N:=2) ?hd (cs:=#[.int .i64 a0_0,.int .i64 a0_1,.slice A0_2 l0_2.length c0_2,.int .i64 a0_3,.int .u32 a0_4]) (t:=63) ?hr ?_;(case hd=>rfl);(case hg=>rfl);(case hr=>first|(go_simp;done)|(go_simp;rfl));intro gb226 hg w24 hbox hb;have n0_:=Aside0.mk (below_step (by repeat (first|(with_reducible first|exact HB.out|apply below_alloc|apply pw_below_drewN|apply below_drew1)|exact HB.out)) hb);have n1_:=Aside0.mk (hbox);have n2_:=Aside0.mk ((by rw [hg];exact (below_size (by repeat (first|(with_reducible first|exact HB.out|apply below_alloc|apply pw_below_drewN|apply below_drew1)|exact HB.out))) : w.heap.size ≤ gb226));have n3_:=Aside0.mk ((by rw [hg];exact (below_size (by repeat (first|(with_reducible first|exact HB.out|apply below_alloc|apply pw_below_drewN|apply below_drew1)|exact HB.out))) : w.heap.size ≤ gb226));clear HB;have HB:=n0_;have BK226:=n1_;have GW226:=n2_;have GE226:=n3_;clear n0_ n1_ n2_ n3_;clear hb hbox hg;have hcz25_0 : w24.cell? ⟨gb226,0,none⟩ = some (.int .i64 a0_0):=(blk_cell BK226.out 0).trans rfl;have hcz25_1 : w24.cell? ⟨gb226,1,none⟩ = some (.int .i64 a0_1):=(blk_cell BK226.out 1).trans rfl;have hcz25_2 : w24.cell? ⟨gb226,2,none⟩ = some (.slice A0_2 l0_2.length c0_2):=(blk_cell BK226.out 2).trans rfl;have hcz25_3 : w24.cell? ⟨gb226,3,none⟩ = some (.int .i64 a0_3):=(blk_cell BK226.out 3).trans rfl;have hcz25_4 : w24.cell? ⟨gb226,4,none⟩ = some (.int .u32 a0_4):=(blk_cell BK226.out 4).trans rfl;have hfz25_0:=blk_frozen BK226.out 0;have hfz25_1:=blk_frozen BK226.out 1;have hfz25_2:=blk_frozen BK226.out 2;have hfz25_3:=blk_frozen BK226.out 3;have hfz25_4:=blk_frozen BK226.out 4)|(go_at_call 86;(with_reducible refine (machine_Check.calls k a0_0 a0_1 _ _ l0_2 a0_3 a0_4 t227 _ ?side1 ?side2 A3.out).mono ?_);(case side1=>repeat (first|exact (Kd.C_below HR0_2.out HB.out)|(with_reducible refine Kd.C_alloc ?_ _)|(with_reducible refine Kd.C_drewN ?_ _)|(with_reducible refine Kd.C_drew ?_)));(case side2=>exact HC0_2.out);rintro e w26 ⟨rfl,hb⟩;have n0_:=Aside0.mk (blk_below (g:=gb226) (o:=.cells #[.int .i64 a0_0,.int .i64 a0_1,.slice A0_2 l0_2.length c0_2,.int .i64 a0_3,.int .u32 a0_4] 63 (0,0)) (by (with_reducible repeat (first|refine blk_drewN ?_ _|refine blk_drew ?_|refine blk_alloc ?_ _));exact BK226.out) hb);have n1_:=Aside0.mk (below_step (by repeat (first|(with_reducible first|exact HB.out|apply below_alloc|apply pw_below_drewN|apply below_drew1|refine below_set ?_ GE226.out)|exact HB.out)) hb);clear BK226;clear HB;have BK226:=n0_;have HB:=n1_;clear n0_ n1_;(try clear hb);(try clear hb2);(try clear hk);(try clear hi);have hcz27_0 : w26.cell? ⟨gb226,0,none⟩ = some (.int .i64 a0_0):=(blk_cell BK226.out 0).trans rfl;have hcz27_1 : w26.cell? ⟨gb226,1,none⟩ = some (.int .i64 a0_1):=(blk_cell BK226.out 1).trans rfl;have hcz27_2 : w26.cell? ⟨gb226,2,none⟩ = some (.slice A0_2 l0_2.length c0_2):=(blk_cell BK226.out 2).trans rfl;have hcz27_3 : w26.cell? ⟨gb226,3,none⟩ = some (.int .i64 a0_3):=(blk_cell BK226.out 3).trans rfl;have hcz27_4 : w26.cell? ⟨gb226,4,none⟩ = some (.int .u32 a0_4):=(blk_cell BK226.out 4).trans rfl;have hfz27_0:=blk_frozen BK226.out 0;have hfz27_1:=blk_frozen BK226.out 1;have hfz27_2:=blk_frozen BK226.out 2;have hfz27_3:=blk_frozen BK226.out 3;have hfz27_4:=blk_frozen BK226.out 4)|(go_at_call 87;(with_reducible refine (machine_Words.calls a0_1 _ _ l1 t228 _ ?side1 ?side2 A5.out).mono ?_);(case side1=>repeat (first|exact (Kd.C_below HR1.out HB.out)|(with_reducible refine Kd.C_alloc ?_ _)|(with_reducible refine Kd.C_drewN ?_ _)|(with_reducible refine Kd.C_drew ?_)));(case side2=>exact HC1.out);rintro e w28 ⟨rfl,hb⟩;have n0_:=Aside0.mk (blk_below (g:=gb226) (o:=.cells #[.int .i64 a0_0,.int .i64 a0_1,.slice A0_2 l0_2.length c0_2,.int .i64 a0_3,.int .u32 a0_4] 63 (0,0)) (by (with_reducible repeat (first|refine blk_drewN ?_ _|refine blk_drew ?_|refine blk_alloc ?_ _));exact BK226.out) hb);have n1_:=Aside0.mk (below_step (by repeat (first|(with_reducible first|exact HB.out|apply below_alloc|apply pw_below_drewN|apply below_drew1|refine below_set ?_ GE226.out)|exact HB.out)) hb);clear BK226;clear HB;have BK226:=n0_;have HB:=n1_;clear n0_ n1_;(try clear hb);(try clear hb2);(try clear hk);(try clear hi)));try go_wp2_with (first|((with_reducible refine gate_dst (N:=2) rfl ?_);refine box_event ?hg (N:=2) ?hd (cs:=#[.int .i64 a0_0,.int .i64 a0_1,.slice A0_2 l0_2.length c0_2,.int .i64 a0_3,.int .u32 a0_4]) (t:=63) ?hr ?_;(case hd=>rfl);(case hg=>rfl);(case hr=>first|(go_simp;done)|(go_simp;rfl));intro gb226 hg w24 hbox hb;have n0_:=Aside0.mk (below_step (by repeat (first|(with_reducible first|exact HB.out|apply below_alloc|apply pw_below_drewN|apply below_drew1)|exact HB.out)) hb);have n1_:=Aside0.mk (hbox);have n2_:=Aside0.mk ((by rw [hg];exact (below_size (by repeat (first|(with_reducible first|exact HB.out|apply below_alloc|apply pw_below_drewN|apply below_drew1)|exact HB.out))) : w.heap.size ≤ gb226));have n3_:=Aside0.mk ((by rw [hg];exact (below_size (by repeat (first|(with_reducible first|exact HB.out|apply below_alloc|apply pw_below_drewN|apply below_drew1)|exact HB.out))) : w.heap.size ≤ gb226));clear HB;have HB:=n0_;have BK226:=n1_;have GW226:=n2_;have GE226:=n3_;clear n0_ n1_ n2_ n3_;clear hb hbox hg;have hcz25_0 : w24.cell? ⟨gb226,0,none⟩ = some (.int .i64 a0_0):=(blk_cell BK226.out 0).trans rfl;have hcz25_1 : w24.cell? ⟨gb226,1,none⟩ = some (.int .i64 a0_1):=(blk_cell BK226.out 1).trans rfl;have hcz25_2 : w24.cell? ⟨gb226,2,none⟩ = some (.slice A0_2 l0_2.length c0_2):=(blk_cell BK226.out 2).trans rfl;have hcz25_3 : w24.cell? ⟨gb226,3,none⟩ = some (.int .i64 a0_3):=(blk_cell BK226.out 3).trans rfl;have hcz25_4 : w24.cell? ⟨gb226,4,none⟩ = some (.int .u32 a0_4):=(blk_cell BK226.out 4).trans rfl;have hfz25_0:=blk_frozen BK226.out 0;have hfz25_1:=blk_frozen BK226.out 1;have hfz25_2:=blk_frozen BK226.out 2;have hfz25_3:=blk_frozen BK226.out 3;have hfz25_4:=blk_frozen BK226.out 4)|(go_at_call 86;(with_reducible refine (machine_Check.calls k a0_0 a0_1 _ _ l0_2 a0_3 a0_4 t227 _ ?side1 ?side2 A3.out).mono ?_);(case side1=>repeat (first|exact (Kd.C_below HR0_2.out HB.out)|(with_reducible refine Kd.C_alloc ?_ _)|(with_reducible refine Kd.C_drewN ?_ _)|(with_reducible refine Kd.C_drew ?_)));(case side2=>exact HC0_2.out);rintro e w26 ⟨rfl,hb⟩;have n0_:=Aside0.mk (blk_below (g:=gb226) (o:=.cells #[.int .i64 a0_0,.int .i64 a0_1,.slice A0_2 l0_2.length c0_2,.int .i64 a0_3,.int .u32 a0_4] 63 (0,0)) (by (with_reducible repeat (first|refine blk_drewN ?_ _|refine blk_drew ?_|refine blk_alloc ?_ _));exact BK226.out) hb);have n1_:=Aside0.mk (below_step (by repeat (first|(with_reducible first|exact HB.out|apply below_alloc|apply pw_below_drewN|apply below_drew1|refine below_set ?_ GE226.out)|exact HB.out)) hb);clear BK226;clear HB;have BK226:=n0_;have HB:=n1_;clear n0_ n1_;(try clear hb);(try clear hb2);(try clear hk);(try clear hi);have hcz27_0 : w26.cell? ⟨gb226,0,none⟩ = some (.int .i64 a0_0):=(blk_cell BK226.out 0).trans rfl;have hcz27_1 : w26.cell? ⟨gb226,1,none⟩ = some (.int .i64 a0_1):=(blk_cell BK226.out 1).trans rfl;have hcz27_2 : w26.cell? ⟨gb226,2,none⟩ = some (.slice A0_2 l0_2.length c0_2):=(blk_cell BK226.out 2).trans rfl;have hcz27_3 : w26.cell? ⟨gb226,3,none⟩ = some (.int .i64 a0_3):=(blk_cell BK226.out 3).trans rfl;have hcz27_4 : w26.cell? ⟨gb226,4,none⟩ = some (.int .u32 a0_4):=(blk_cell BK226.out 4).trans rfl;have hfz27_0:=blk_frozen BK226.out 0;have hfz27_1:=blk_frozen BK226.out 1;have hfz27_2:=blk_frozen BK226.out 2;have hfz27_3:=blk_frozen BK226.out 3;have hfz27_4:=blk_frozen BK226.out 4)|(go_at_call 87;(with_reducible refine (machine_Words.calls a0_1 _ _ l1 t228 _ ?side1 ?side2 A5.out).mono ?_);(case side1=>repeat (first|exact (Kd.C_below HR1.out HB.out)|(with_reducible refine Kd.C_alloc ?_ _)|(with_reducible refine Kd.C_drewN ?_ _)|(with_reducible refine Kd.C_drew ?_)));(case side2=>exact HC1.out);rintro e w28 ⟨rfl,hb⟩;have n0_:=Aside0.mk (blk_below (g:=gb226) (o:=.cells #[.int .i64 a0_0,.int .i64 a0_1,.slice A0_2 l0_2.length c0_2,.int .i64 a0_3,.int .u32 a0_4] 63 (0,0)) (by (with_reducible repeat (first|refine blk_drewN ?_ _|refine blk_drew ?_|refine blk_alloc ?_ _));exact BK226.out) hb);have n1_:=Aside0.mk (below_step (by repeat (first|(with_reducible first|exact HB.out|apply below_alloc|apply pw_below_drewN|apply below_drew1|refine below_set ?_ GE226.out)|exact HB.out)) hb);clear BK226;clear HB;have BK226:=n0_;have HB:=n1_;clear n0_ n1_;(try clear hb);(try clear hb2);(try clear hk);(try clear hi))))
   go_ret3
   exact ⟨by first|rfl|(simp [errW_none,errW_some] <;> rfl)|(simp [*,errW_none,errW_some] <;> rfl),by repeat (first|(with_reducible first|exact HB.out|apply below_alloc|apply pw_below_drewN|apply below_drew1|refine below_set ?_ GE226.out)|exact HB.out)⟩
 ·rw [if_neg c4] at H
  have c4b0 : (t227 == 0) = false:=beq_eq_false_iff_ne.mpr c4
  have c4b1 : (t227 != 0) = true:=bne_iff_ne.mpr c4
  simp only [Option.some.injEq,Prod.mk.injEq] at H
  obtain ⟨rfl,rfl,rfl⟩:=H
  go_enter Try.func39,Try.ntmps39
  go_wp2_with (first|((with_reducible refine gate_dst (N:=2) rfl ?_);refine box_event ?hg (N:=2) ?hd (cs:=#[.int .i64 a0_0,.int .i64 a0_1,.slice A0_2 l0_2.length c0_2,.int .i64 a0_3,.int .u32 a0_4]) (t:=63) ?hr ?_;(case hd=>rfl);(case hg=>rfl);(case hr=>first|(go_simp;done)|(go_simp;rfl));intro gb226 hg w29 hbox hb;have n0_:=Aside0.mk (below_step (by repeat (first|(with_reducible first|exact HB.out|apply below_alloc|apply pw_below_drewN|apply below_drew1)|exact HB.out)) hb);have n1_:=Aside0.mk (hbox);have n2_:=Aside0.mk ((by rw [hg];exact (below_size (by repeat (first|(with_reducible first|exact HB.out|apply below_alloc|apply pw_below_drewN|apply below_drew1)|exact HB.out))) : w.heap.size ≤ gb226));have n3_:=Aside0.mk ((by rw [hg];exact (below_size (by repeat (first|(with_reducible first|exact HB.out|apply below_alloc|apply pw_below_drewN|apply below_drew1)|exact HB.out))) : w.heap.size ≤ gb226));clear HB;have HB:=n0_;have BK226:=n1_;have GW226:=n2_;have GE226:=n3_;clear n0_ n1_ n2_ n3_;clear hb hbox hg;have hcz30_0 : w29.cell? ⟨gb226,0,none⟩ = some (.int .i64 a0_0):=(blk_cell BK226.out 0).trans rfl;have hcz30_1 : w29.cell? ⟨gb226,1,none⟩ = some (.int .i64 a0_1):=(blk_cell BK226.out 1).trans rfl;have hcz30_2 : w29.cell? ⟨gb226,2,none⟩ = some (.slice A0_2 l0_2.length c0_2):=(blk_cell BK226.out 2).trans rfl;have hcz30_3 : w29.cell? ⟨gb226,3,none⟩ = some (.int .i64 a0_3):=(blk_cell BK226.out 3).trans rfl;have hcz30_4 : w29.cell? ⟨gb226,4,none⟩ = some (.int .u32 a0_4):=(blk_cell BK226.out 4).trans rfl;have hfz30_0:=blk_frozen BK226.out 0;have hfz30_1:=blk_frozen BK226.out 1;have hfz30_2:=blk_frozen BK226.out 2;have hfz30_3:=blk_frozen BK226.out 3;have hfz30_4:=blk_frozen BK226.out 4)|(go_at_call 86;(with_reducible refine (machine_Check.calls k a0_0 a0_1 _ _ l0_2 a0_3 a0_4 t227 _ ?side1 ?side2 A3.out).mono ?_);(case side1=>repeat (first|exact (Kd.C_below HR0_2.out HB.out)|(with_reducible refine Kd.C_alloc ?_ _)|(with_reducible refine Kd.C_drewN ?_ _)|(with_reducible refine Kd.C_drew ?_)));(case side2=>exact HC0_2.out);rintro e w31 ⟨rfl,hb⟩;have n0_:=Aside0.mk (blk_below (g:=gb226) (o:=.cells #[.int .i64 a0_0,.int .i64 a0_1,.slice A0_2 l0_2.length c0_2,.int .i64 a0_3,.int .u32 a0_4] 63 (0,0)) (by (with_reducible repeat (first|refine blk_drewN ?_ _|refine blk_drew ?_|refine blk_alloc ?_ _));exact BK226.out) hb);have n1_:=Aside0.mk (below_step (by repeat (first|(with_reducible first|exact HB.out|apply below_alloc|apply pw_below_drewN|apply below_drew1|refine below_set ?_ GE226.out)|exact HB.out)) hb);clear BK226;clear HB;have BK226:=n0_;have HB:=n1_;clear n0_ n1_;(try clear hb);(try clear hb2);(try clear hk);(try clear hi)))
  repeat (go_quiet (first|((with_reducible refine gate_dst (N:=2) rfl ?_);refine box_event ?hg (N:=2) ?hd (cs:=#[.int .i64 a0_0,.int .i64 a0_1,.slice A0_2 l0_2.length c0_2,.int .i64 a0_3,.int .u32 a0_4]) (t:=63) ?hr ?_;(case hd=>rfl);(case hg=>rfl);(case hr=>first|(go_simp;done)|(go_simp;rfl));intro gb226 hg w29 hbox hb;have n0_:=Aside0.mk (below_step (by repeat (first|(with_reducible first|exact HB.out|apply below_alloc|apply pw_below_drewN|apply below_drew1)|exact HB.out)) hb);have n1_:=Aside0.mk (hbox);have n2_:=Aside0.mk ((by rw [hg];exact (below_size (by repeat (first|(with_reducible first|exact HB.out|apply below_alloc|apply pw_below_drewN|apply below_drew1)|exact HB.out))) : w.heap.size ≤ gb226));have n3_:=Aside0.mk ((by rw [hg];exact (below_size (by repeat (first|(with_reducible first|exact HB.out|apply below_alloc|apply pw_below_drewN|apply below_drew1)|exact HB.out))) : w.heap.size ≤ gb226));clear HB;have HB:=n0_;have BK226:=n1_;have GW226:=n2_;have GE226:=n3_;clear n0_ n1_ n2_ n3_;clear hb hbox hg;have hcz30_0 : w29.cell? ⟨gb226,0,none⟩ = some (.int .i64 a0_0):=(blk_cell BK226.out 0).trans rfl;have hcz30_1 : w29.cell? ⟨gb226,1,none⟩ = some (.int .i64 a0_1):=(blk_cell BK226.out 1).trans rfl;have hcz30_2 : w29.cell? ⟨gb226,2,none⟩ = some (.slice A0_2 l0_2.length c0_2):=(blk_cell BK226.out 2).trans rfl;have hcz30_3 : w29.cell? ⟨gb226,3,none⟩ = some (.int .i64 a0_3):=(blk_cell BK226.out 3).trans rfl;have hcz30_4 : w29.cell? ⟨gb226,4,none⟩ = some (.int .u32 a0_4):=(blk_cell BK226.out 4).trans rfl;have hfz30_0:=blk_frozen BK226.out 0;have hfz30_1:=blk_frozen BK226.out 1;have hfz30_2:=blk_frozen BK226.out 2;have hfz30_3:=blk_frozen BK226.out 3;have hfz30_4:=blk_frozen BK226.out 4)|(go_at_call 86;(with_reducible refine (machine_Check.calls k a0_0 a0_1 _ _ l0_2 a0_3 a0_4 t227 _ ?side1 ?side2 A3.out).mono ?_);(case side1=>repeat (first|exact (Kd.C_below HR0_2.out HB.out)|(with_reducible refine Kd.C_alloc ?_ _)|(with_reducible refine Kd.C_drewN ?_ _)|(with_reducible refine Kd.C_drew ?_)));(case side2=>exact HC0_2.out);rintro e w31 ⟨rfl,hb⟩;have n0_:=Aside0.mk (blk_below (g:=gb226) (o:=.cells #[.int .i64 a0_0,.int .i64 a0_1,.slice A0_2 l0_2.length c0_2,.int .i64 a0_3,.int .u32 a0_4] 63 (0,0)) (by (with_reducible repeat (first|refine blk_drewN ?_ _|refine blk_drew ?_|refine blk_alloc ?_ _));exact BK226.out) hb);have n1_:=Aside0.mk (below_step (by repeat (first|(with_reducible first|exact HB.out|apply below_alloc|apply pw_below_drewN|apply below_drew1|refine below_set ?_ GE226.out)|exact HB.out)) hb);clear BK226;clear HB;have BK226:=n0_;have HB:=n1_;clear n0_ n1_;(try clear hb);(try clear hb2);(try clear hk);(try clear hi)));try go_wp2_with (first|((with_reducible refine gate_dst (N:=2) rfl ?_);refine box_event ?hg (N:=2) ?hd (cs:=#[.int .i64 a0_0,.int .i64 a0_1,.slice A0_2 l0_2.length c0_2,.int .i64 a0_3,.int .u32 a0_4]) (t:=63) ?hr ?_;(case hd=>rfl);(case hg=>rfl);(case hr=>first|(go_simp;done)|(go_simp;rfl));intro gb226 hg w29 hbox hb;have n0_:=Aside0.mk (below_step (by repeat (first|(with_reducible first|exact HB.out|apply below_alloc|apply pw_below_drewN|apply below_drew1)|exact HB.out)) hb);have n1_:=Aside0.mk (hbox);have n2_:=Aside0.mk ((by rw [hg];exact (below_size (by repeat (first|(with_reducible first|exact HB.out|apply below_alloc|apply pw_below_drewN|apply below_drew1)|exact HB.out))) : w.heap.size ≤ gb226));have n3_:=Aside0.mk ((by rw [hg];exact (below_size (by repeat (first|(with_reducible first|exact HB.out|apply below_alloc|apply pw_below_drewN|apply below_drew1)|exact HB.out))) : w.heap.size ≤ gb226));clear HB;have HB:=n0_;have BK226:=n1_;have GW226:=n2_;have GE226:=n3_;clear n0_ n1_ n2_ n3_;clear hb hbox hg;have hcz30_0 : w29.cell? ⟨gb226,0,none⟩ = some (.int .i64 a0_0):=(blk_cell BK226.out 0).trans rfl;have hcz30_1 : w29.cell? ⟨gb226,1,none⟩ = some (.int .i64 a0_1):=(blk_cell BK226.out 1).trans rfl;have hcz30_2 : w29.cell? ⟨gb226,2,none⟩ = some (.slice A0_2 l0_2.length c0_2):=(blk_cell BK226.out 2).trans rfl;have hcz30_3 : w29.cell? ⟨gb226,3,none⟩ = some (.int .i64 a0_3):=(blk_cell BK226.out 3).trans rfl;have hcz30_4 : w29.cell? ⟨gb226,4,none⟩ = some (.int .u32 a0_4):=(blk_cell BK226.out 4).trans rfl;have hfz30_0:=blk_frozen BK226.out 0;have hfz30_1:=blk_frozen BK226.out 1;have hfz30_2:=blk_frozen BK226.out 2;have hfz30_3:=blk_frozen BK226.out 3;have hfz30_4:=blk_frozen BK226.out 4)|(go_at_call 86;(with_reducible refine (machine_Check.calls k a0_0 a0_1 _ _ l0_2 a0_3 a0_4 t227 _ ?side1 ?side2 A3.out).mono ?_);(case side1=>repeat (first|exact (Kd.C_below HR0_2.out HB.out)|(with_reducible refine Kd.C_alloc ?_ _)|(with_reducible refine Kd.C_drewN ?_ _)|(with_reducible refine Kd.C_drew ?_)));(case side2=>exact HC0_2.out);rintro e w31 ⟨rfl,hb⟩;have n0_:=Aside0.mk (blk_below (g:=gb226) (o:=.cells #[.int .i64 a0_0,.int .i64 a0_1,.slice A0_2 l0_2.length c0_2,.int .i64 a0_3,.int .u32 a0_4] 63 (0,0)) (by (with_reducible repeat (first|refine blk_drewN ?_ _|refine blk_drew ?_|refine blk_alloc ?_ _));exact BK226.out) hb);have n1_:=Aside0.mk (below_step (by repeat (first|(with_reducible first|exact HB.out|apply below_alloc|apply pw_below_drewN|apply below_drew1|refine below_set ?_ GE226.out)|exact HB.out)) hb);clear BK226;clear HB;have BK226:=n0_;have HB:=n1_;clear n0_ n1_;(try clear hb);(try clear hb2);(try clear hk);(try clear hi))))
  go_ret3
  exact ⟨by first|rfl|(simp [errW_none,errW_some] <;> rfl)|(simp [*,errW_none,errW_some] <;> rfl),by repeat (first|(with_reducible first|exact HB.out|apply below_alloc|apply pw_below_drewN|apply below_drew1|refine below_set ?_ GE226.out)|exact HB.out)⟩
end Go.Proofs.Ythgiiikjcfhgjaa.GV
