-- Written by ext.py, a program of this session.
import Derived.Test.YtnkackiocigdoaaGA0
import Derived.Test.YtnkackiocigdoaaGA2
import Derived.Test.YtnkackiocigdoaaGA3
namespace Go.Proofs.Ytnkackiocigdoaa.GA
open Go.RowKit Go.Proofs.YtnkackiocigdoaaW.PrintWords Go.Proofs.YtnkackiocigdoaaW.PrintLast Go.Proofs.YtnkackiocigdoaaW.PrintMore
attribute [local go_sem] max2_int min2_int max_two min_two max_three min_three max_four min_four cellIs_set   -- for this text's walks alone
set_option linter.unusedVariables false
set_option linter.unusedSimpArgs false
/-! ### grammar_Makes: function 15 -/
def grammar_Makes.f (k : Nat) (a0_0 : Int) (a0_1 : Int) (a0_2 : Int) (l0_3 : List (S27)) : Option (Int × Int):=(grammar_Check.f k a0_0 a0_1 a0_2 l0_3).bind fun t115=>(if t115 = 0 then ((grammar_Least.f k a0_0 a0_1 a0_2 l0_3 true).bind fun t116=>(some (t116,0))) else (some (0,t115)))
theorem grammar_Makes.mono : ∀ a0 a1 a2 a3 k,LeO (grammar_Makes.f k a0 a1 a2 a3) (grammar_Makes.f (k + 1) a0 a1 a2 a3):=by
 intro a0 a1 a2 a3 k
 unfold grammar_Makes.f
 repeat' first
   | (with_reducible exact grammar_Check.mono _ _ _ _ _)
   | (with_reducible exact grammar_Least.mono _ _ _ _ _ _)
   | (with_reducible exact LeO.refl _)
   | (with_reducible exact LeO.none _)
   | (with_reducible refine LeO.ite ?_ ?_)
   | (with_reducible refine LeO.bind ?_ (fun _=>?_))
   | exact grammar_Check.mono _ _ _ _ _
   | exact grammar_Least.mono _ _ _ _ _ _
   | exact LeO.none _
   | refine LeO.ite ?_ ?_
   | refine LeO.bind ?_ (fun _=>?_)
set_option maxHeartbeats 8000000 in
set_option maxRecDepth 100000 in
theorem grammar_Makes.calls (k : Nat) (a0_0 : Int) (a0_1 : Int) (a0_2 : Int) (A0_3 : Option Addr) (c0_3 : Nat) (l0_3 : List (S27)) (r1 : Int) (r2 : Int) (w : World) (hr0_3 : Kd.C k27 w A0_3 l0_3.length l0_3) (hc0_3 : l0_3.length ≤ c0_3) (h : grammar_Makes.f k a0_0 a0_1 a0_2 l0_3 = some (r1,r2)) :
  Calls Try.prog 15 #[.agg #[.int .i64 a0_0,.int .i64 a0_1,.int .i64 a0_2,.slice A0_3 l0_3.length c0_3]] w fun e w'=>e = .returned (.tuple #[.int .u32 r1,.int .i64 r2]) ∧ Below w.heap.size w w':=by
 have hu24:=Try.underlying24
 have HR0_3:=Aside0.mk hr0_3
 have HC0_3:=Aside0.mk hc0_3
 clear hr0_3 hc0_3
 have HB:=Aside0.mk (Below.refl w.heap.size w)
 have H : ((grammar_Check.f k a0_0 a0_1 a0_2 l0_3).bind fun t115=>(if t115 = 0 then ((grammar_Least.f k a0_0 a0_1 a0_2 l0_3 true).bind fun t116=>(some (t116,0))) else (some (0,t115)))) = some (r1,r2):=h
 clear h
 replace H:=Option.bind_eq_some_iff.mp H
 obtain ⟨t115,A20,H⟩:=H
 replace H : (if t115 = 0 then ((grammar_Least.f k a0_0 a0_1 a0_2 l0_3 true).bind fun t116=>(some (t116,0))) else (some (0,t115))) = some (r1,r2):=H
 have A2:=Aside0.mk A20
 clear A20
 by_cases c3 : t115 = 0
 ·rw [if_pos c3] at H
  have c3b0 : (t115 == 0) = true:=beq_iff_eq.mpr c3
  have c3b1 : (t115 != 0) = false:=bne_eq_false_iff_eq.mpr c3
  clear c3
  replace H:=Option.bind_eq_some_iff.mp H
  obtain ⟨t116,A40,H⟩:=H
  replace H : (some (t116,0)) = some (r1,r2):=H
  have A4:=Aside0.mk A40
  clear A40
  simp only [Option.some.injEq,Prod.mk.injEq] at H
  obtain ⟨rfl,rfl⟩:=H
  go_enter Try.func15,Try.ntmps15
  go_wp2_with (first|((with_reducible refine gate_dst (N:=1) rfl ?_);refine box_event ?hg (N:=1) ?hd (cs:=#[.int .i64 a0_0,.int .i64 a0_1,.int .i64 a0_2,.slice A0_3 l0_3.length c0_3]) (t:=24) ?hr ?_;(case hd=>rfl);(case hg=>rfl);(case hr=>first|(go_simp;done)|(go_simp;rfl));intro gb114 hg w5 hbox hb;have n0_:=Aside0.mk (below_step (by repeat (first|(with_reducible first|exact HB.out|apply below_alloc|apply pw_below_drewN|apply below_drew1)|exact HB.out)) hb);have n1_:=Aside0.mk (hbox);have n2_:=Aside0.mk ((by rw [hg];exact (below_size (by repeat (first|(with_reducible first|exact HB.out|apply below_alloc|apply pw_below_drewN|apply below_drew1)|exact HB.out))) : w.heap.size ≤ gb114));have n3_:=Aside0.mk ((by rw [hg];exact (below_size (by repeat (first|(with_reducible first|exact HB.out|apply below_alloc|apply pw_below_drewN|apply below_drew1)|exact HB.out))) : w.heap.size ≤ gb114));clear HB;have HB:=n0_;have BK114:=n1_;have GW114:=n2_;have GE114:=n3_;clear n0_ n1_ n2_ n3_;clear hb hbox hg;have hcz6_0 : w5.cell? ⟨gb114,0,none⟩ = some (.int .i64 a0_0):=(blk_cell BK114.out 0).trans rfl;have hcz6_1 : w5.cell? ⟨gb114,1,none⟩ = some (.int .i64 a0_1):=(blk_cell BK114.out 1).trans rfl;have hcz6_2 : w5.cell? ⟨gb114,2,none⟩ = some (.int .i64 a0_2):=(blk_cell BK114.out 2).trans rfl;have hcz6_3 : w5.cell? ⟨gb114,3,none⟩ = some (.slice A0_3 l0_3.length c0_3):=(blk_cell BK114.out 3).trans rfl;have hfz6_0:=blk_frozen BK114.out 0;have hfz6_1:=blk_frozen BK114.out 1;have hfz6_2:=blk_frozen BK114.out 2;have hfz6_3:=blk_frozen BK114.out 3)|((with_reducible refine gate_callee (f:=40) rfl ?_);refine goesL_ (some 6) rfl rfl Try.func40 (by kernel_rfl) rfl #[.agg #[.int .i64 a0_0,.int .i64 a0_1,.int .i64 a0_2,.slice A0_3 l0_3.length c0_3]] rfl (by (try simp only [List.map_toArray,List.map_cons,List.map_nil]);first|done|rfl|(simp only [List.length_drop,List.length_take];rfl)) ?_;(with_reducible refine (grammar_Check.calls k a0_0 a0_1 a0_2 _ _ l0_3 t115 _ ?side1 ?side2 A2.out).mono ?_);(case side1=>repeat (first|exact (Kd.C_below HR0_3.out HB.out)|(with_reducible refine Kd.C_alloc ?_ _)|(with_reducible refine Kd.C_drewN ?_ _)|(with_reducible refine Kd.C_drew ?_)));(case side2=>exact HC0_3.out);rintro e w7 ⟨rfl,hb⟩;refine ⟨_,rfl,?_⟩;have n0_:=Aside0.mk (blk_below (g:=gb114) (o:=.cells #[.int .i64 a0_0,.int .i64 a0_1,.int .i64 a0_2,.slice A0_3 l0_3.length c0_3] 24 (0,0)) (by (with_reducible repeat (first|refine blk_drewN ?_ _|refine blk_drew ?_|refine blk_alloc ?_ _));exact BK114.out) hb);have n1_:=Aside0.mk (below_step (by repeat (first|(with_reducible first|exact HB.out|apply below_alloc|apply pw_below_drewN|apply below_drew1|refine below_set ?_ GE114.out)|exact HB.out)) hb);clear BK114;clear HB;have BK114:=n0_;have HB:=n1_;clear n0_ n1_;(try clear hb);(try clear hb2);(try clear hk);(try clear hi);have hcz8_0 : w7.cell? ⟨gb114,0,none⟩ = some (.int .i64 a0_0):=(blk_cell BK114.out 0).trans rfl;have hcz8_1 : w7.cell? ⟨gb114,1,none⟩ = some (.int .i64 a0_1):=(blk_cell BK114.out 1).trans rfl;have hcz8_2 : w7.cell? ⟨gb114,2,none⟩ = some (.int .i64 a0_2):=(blk_cell BK114.out 2).trans rfl;have hcz8_3 : w7.cell? ⟨gb114,3,none⟩ = some (.slice A0_3 l0_3.length c0_3):=(blk_cell BK114.out 3).trans rfl;have hfz8_0:=blk_frozen BK114.out 0;have hfz8_1:=blk_frozen BK114.out 1;have hfz8_2:=blk_frozen BK114.out 2;have hfz8_3:=blk_frozen BK114.out 3)|((with_reducible refine gate_callee (f:=41) rfl ?_);refine goesL_ (some 11) rfl rfl Try.func41 (by kernel_rfl) rfl #[.agg #[.int .i64 a0_0,.int .i64 a0_1,.int .i64 a0_2,.slice A0_3 l0_3.length c0_3],.bool true] rfl (by (try simp only [List.map_toArray,List.map_cons,List.map_nil]);first|done|rfl|(simp only [List.length_drop,List.length_take];rfl)) ?_;(with_reducible refine (grammar_Least.calls k a0_0 a0_1 a0_2 _ _ l0_3 true t116 _ ?side1 ?side2 A4.out).mono ?_);(case side1=>repeat (first|exact (Kd.C_below HR0_3.out HB.out)|(with_reducible refine Kd.C_alloc ?_ _)|(with_reducible refine Kd.C_drewN ?_ _)|(with_reducible refine Kd.C_drew ?_)));(case side2=>exact HC0_3.out);rintro e w9 ⟨rfl,hb⟩;refine ⟨_,rfl,?_⟩;have n0_:=Aside0.mk (blk_below (g:=gb114) (o:=.cells #[.int .i64 a0_0,.int .i64 a0_1,.int .i64 a0_2,.slice A0_3 l0_3.length c0_3] 24 (0,0)) (by (with_reducible repeat (first|refine blk_drewN ?_ _|refine blk_drew ?_|refine blk_alloc ?_ _));exact BK114.out) hb);have n1_:=Aside0.mk (below_step (by repeat (first|(with_reducible first|exact HB.out|apply below_alloc|apply pw_below_drewN|apply below_drew1|refine below_set ?_ GE114.out)|exact HB.out)) hb);clear BK114;clear HB;have BK114:=n0_;have HB:=n1_;clear n0_ n1_;(try clear hb);(try clear hb2);(try clear hk);(try clear hi)))
  go_ret2
  exact ⟨by first|rfl|(simp [errW_none,errW_some] <;> rfl)|(simp [*,errW_none,errW_some] <;> rfl),by repeat (first|(with_reducible first|exact HB.out|apply below_alloc|apply pw_below_drewN|apply below_drew1|refine below_set ?_ GE114.out)|exact HB.out)⟩
 ·rw [if_neg c3] at H
  have c3b0 : (t115 == 0) = false:=beq_eq_false_iff_ne.mpr c3
  have c3b1 : (t115 != 0) = true:=bne_iff_ne.mpr c3
  simp only [Option.some.injEq,Prod.mk.injEq] at H
  obtain ⟨rfl,rfl⟩:=H
  go_enter Try.func15,Try.ntmps15
  go_wp2_with (first|((with_reducible refine gate_dst (N:=1) rfl ?_);refine box_event ?hg (N:=1) ?hd (cs:=#[.int .i64 a0_0,.int .i64 a0_1,.int .i64 a0_2,.slice A0_3 l0_3.length c0_3]) (t:=24) ?hr ?_;(case hd=>rfl);(case hg=>rfl);(case hr=>first|(go_simp;done)|(go_simp;rfl));intro gb114 hg w10 hbox hb;have n0_:=Aside0.mk (below_step (by repeat (first|(with_reducible first|exact HB.out|apply below_alloc|apply pw_below_drewN|apply below_drew1)|exact HB.out)) hb);have n1_:=Aside0.mk (hbox);have n2_:=Aside0.mk ((by rw [hg];exact (below_size (by repeat (first|(with_reducible first|exact HB.out|apply below_alloc|apply pw_below_drewN|apply below_drew1)|exact HB.out))) : w.heap.size ≤ gb114));have n3_:=Aside0.mk ((by rw [hg];exact (below_size (by repeat (first|(with_reducible first|exact HB.out|apply below_alloc|apply pw_below_drewN|apply below_drew1)|exact HB.out))) : w.heap.size ≤ gb114));clear HB;have HB:=n0_;have BK114:=n1_;have GW114:=n2_;have GE114:=n3_;clear n0_ n1_ n2_ n3_;clear hb hbox hg;have hcz11_0 : w10.cell? ⟨gb114,0,none⟩ = some (.int .i64 a0_0):=(blk_cell BK114.out 0).trans rfl;have hcz11_1 : w10.cell? ⟨gb114,1,none⟩ = some (.int .i64 a0_1):=(blk_cell BK114.out 1).trans rfl;have hcz11_2 : w10.cell? ⟨gb114,2,none⟩ = some (.int .i64 a0_2):=(blk_cell BK114.out 2).trans rfl;have hcz11_3 : w10.cell? ⟨gb114,3,none⟩ = some (.slice A0_3 l0_3.length c0_3):=(blk_cell BK114.out 3).trans rfl;have hfz11_0:=blk_frozen BK114.out 0;have hfz11_1:=blk_frozen BK114.out 1;have hfz11_2:=blk_frozen BK114.out 2;have hfz11_3:=blk_frozen BK114.out 3)|((with_reducible refine gate_callee (f:=40) rfl ?_);refine goesL_ (some 6) rfl rfl Try.func40 (by kernel_rfl) rfl #[.agg #[.int .i64 a0_0,.int .i64 a0_1,.int .i64 a0_2,.slice A0_3 l0_3.length c0_3]] rfl (by (try simp only [List.map_toArray,List.map_cons,List.map_nil]);first|done|rfl|(simp only [List.length_drop,List.length_take];rfl)) ?_;(with_reducible refine (grammar_Check.calls k a0_0 a0_1 a0_2 _ _ l0_3 t115 _ ?side1 ?side2 A2.out).mono ?_);(case side1=>repeat (first|exact (Kd.C_below HR0_3.out HB.out)|(with_reducible refine Kd.C_alloc ?_ _)|(with_reducible refine Kd.C_drewN ?_ _)|(with_reducible refine Kd.C_drew ?_)));(case side2=>exact HC0_3.out);rintro e w12 ⟨rfl,hb⟩;refine ⟨_,rfl,?_⟩;have n0_:=Aside0.mk (blk_below (g:=gb114) (o:=.cells #[.int .i64 a0_0,.int .i64 a0_1,.int .i64 a0_2,.slice A0_3 l0_3.length c0_3] 24 (0,0)) (by (with_reducible repeat (first|refine blk_drewN ?_ _|refine blk_drew ?_|refine blk_alloc ?_ _));exact BK114.out) hb);have n1_:=Aside0.mk (below_step (by repeat (first|(with_reducible first|exact HB.out|apply below_alloc|apply pw_below_drewN|apply below_drew1|refine below_set ?_ GE114.out)|exact HB.out)) hb);clear BK114;clear HB;have BK114:=n0_;have HB:=n1_;clear n0_ n1_;(try clear hb);(try clear hb2);(try clear hk);(try clear hi)))
  go_ret2
  exact ⟨by first|rfl|(simp [errW_none,errW_some] <;> rfl)|(simp [*,errW_none,errW_some] <;> rfl),by repeat (first|(with_reducible first|exact HB.out|apply below_alloc|apply pw_below_drewN|apply below_drew1|refine below_set ?_ GE114.out)|exact HB.out)⟩
/-! ### grammar_Void: function 16 -/
def grammar_Void.f (k : Nat) (a0_0 : Int) (a0_1 : Int) (a0_2 : Int) (l0_3 : List (S27)) : Option (Int × Int):=(grammar_Check.f k a0_0 a0_1 a0_2 l0_3).bind fun t118=>(if t118 = 0 then ((grammar_Least.f k a0_0 a0_1 a0_2 l0_3 false).bind fun t119=>(some (t119,0))) else (some (0,t118)))
theorem grammar_Void.mono : ∀ a0 a1 a2 a3 k,LeO (grammar_Void.f k a0 a1 a2 a3) (grammar_Void.f (k + 1) a0 a1 a2 a3):=by
 intro a0 a1 a2 a3 k
 unfold grammar_Void.f
 repeat' first
   | (with_reducible exact grammar_Check.mono _ _ _ _ _)
   | (with_reducible exact grammar_Least.mono _ _ _ _ _ _)
   | (with_reducible exact LeO.refl _)
   | (with_reducible exact LeO.none _)
   | (with_reducible refine LeO.ite ?_ ?_)
   | (with_reducible refine LeO.bind ?_ (fun _=>?_))
   | exact grammar_Check.mono _ _ _ _ _
   | exact grammar_Least.mono _ _ _ _ _ _
   | exact LeO.none _
   | refine LeO.ite ?_ ?_
   | refine LeO.bind ?_ (fun _=>?_)
set_option maxHeartbeats 8000000 in
set_option maxRecDepth 100000 in
theorem grammar_Void.calls (k : Nat) (a0_0 : Int) (a0_1 : Int) (a0_2 : Int) (A0_3 : Option Addr) (c0_3 : Nat) (l0_3 : List (S27)) (r1 : Int) (r2 : Int) (w : World) (hr0_3 : Kd.C k27 w A0_3 l0_3.length l0_3) (hc0_3 : l0_3.length ≤ c0_3) (h : grammar_Void.f k a0_0 a0_1 a0_2 l0_3 = some (r1,r2)) :
  Calls Try.prog 16 #[.agg #[.int .i64 a0_0,.int .i64 a0_1,.int .i64 a0_2,.slice A0_3 l0_3.length c0_3]] w fun e w'=>e = .returned (.tuple #[.int .u32 r1,.int .i64 r2]) ∧ Below w.heap.size w w':=by
 have hu24:=Try.underlying24
 have HR0_3:=Aside0.mk hr0_3
 have HC0_3:=Aside0.mk hc0_3
 clear hr0_3 hc0_3
 have HB:=Aside0.mk (Below.refl w.heap.size w)
 have H : ((grammar_Check.f k a0_0 a0_1 a0_2 l0_3).bind fun t118=>(if t118 = 0 then ((grammar_Least.f k a0_0 a0_1 a0_2 l0_3 false).bind fun t119=>(some (t119,0))) else (some (0,t118)))) = some (r1,r2):=h
 clear h
 replace H:=Option.bind_eq_some_iff.mp H
 obtain ⟨t118,A20,H⟩:=H
 replace H : (if t118 = 0 then ((grammar_Least.f k a0_0 a0_1 a0_2 l0_3 false).bind fun t119=>(some (t119,0))) else (some (0,t118))) = some (r1,r2):=H
 have A2:=Aside0.mk A20
 clear A20
 by_cases c3 : t118 = 0
 ·rw [if_pos c3] at H
  have c3b0 : (t118 == 0) = true:=beq_iff_eq.mpr c3
  have c3b1 : (t118 != 0) = false:=bne_eq_false_iff_eq.mpr c3
  clear c3
  replace H:=Option.bind_eq_some_iff.mp H
  obtain ⟨t119,A40,H⟩:=H
  replace H : (some (t119,0)) = some (r1,r2):=H
  have A4:=Aside0.mk A40
  clear A40
  simp only [Option.some.injEq,Prod.mk.injEq] at H
  obtain ⟨rfl,rfl⟩:=H
  go_enter Try.func16,Try.ntmps16
  go_wp2_with (first|((with_reducible refine gate_dst (N:=1) rfl ?_);refine box_event ?hg (N:=1) ?hd (cs:=#[.int .i64 a0_0,.int .i64 a0_1,.int .i64 a0_2,.slice A0_3 l0_3.length c0_3]) (t:=24) ?hr ?_;(case hd=>rfl);(case hg=>rfl);(case hr=>first|(go_simp;done)|(go_simp;rfl));intro gb117 hg w5 hbox hb;have n0_:=Aside0.mk (below_step (by repeat (first|(with_reducible first|exact HB.out|apply below_alloc|apply pw_below_drewN|apply below_drew1)|exact HB.out)) hb);have n1_:=Aside0.mk (hbox);have n2_:=Aside0.mk ((by rw [hg];exact (below_size (by repeat (first|(with_reducible first|exact HB.out|apply below_alloc|apply pw_below_drewN|apply below_drew1)|exact HB.out))) : w.heap.size ≤ gb117));have n3_:=Aside0.mk ((by rw [hg];exact (below_size (by repeat (first|(with_reducible first|exact HB.out|apply below_alloc|apply pw_below_drewN|apply below_drew1)|exact HB.out))) : w.heap.size ≤ gb117));clear HB;have HB:=n0_;have BK117:=n1_;have GW117:=n2_;have GE117:=n3_;clear n0_ n1_ n2_ n3_;clear hb hbox hg;have hcz6_0 : w5.cell? ⟨gb117,0,none⟩ = some (.int .i64 a0_0):=(blk_cell BK117.out 0).trans rfl;have hcz6_1 : w5.cell? ⟨gb117,1,none⟩ = some (.int .i64 a0_1):=(blk_cell BK117.out 1).trans rfl;have hcz6_2 : w5.cell? ⟨gb117,2,none⟩ = some (.int .i64 a0_2):=(blk_cell BK117.out 2).trans rfl;have hcz6_3 : w5.cell? ⟨gb117,3,none⟩ = some (.slice A0_3 l0_3.length c0_3):=(blk_cell BK117.out 3).trans rfl;have hfz6_0:=blk_frozen BK117.out 0;have hfz6_1:=blk_frozen BK117.out 1;have hfz6_2:=blk_frozen BK117.out 2;have hfz6_3:=blk_frozen BK117.out 3)|((with_reducible refine gate_callee (f:=40) rfl ?_);refine goesL_ (some 6) rfl rfl Try.func40 (by kernel_rfl) rfl #[.agg #[.int .i64 a0_0,.int .i64 a0_1,.int .i64 a0_2,.slice A0_3 l0_3.length c0_3]] rfl (by (try simp only [List.map_toArray,List.map_cons,List.map_nil]);first|done|rfl|(simp only [List.length_drop,List.length_take];rfl)) ?_;(with_reducible refine (grammar_Check.calls k a0_0 a0_1 a0_2 _ _ l0_3 t118 _ ?side1 ?side2 A2.out).mono ?_);(case side1=>repeat (first|exact (Kd.C_below HR0_3.out HB.out)|(with_reducible refine Kd.C_alloc ?_ _)|(with_reducible refine Kd.C_drewN ?_ _)|(with_reducible refine Kd.C_drew ?_)));(case side2=>exact HC0_3.out);rintro e w7 ⟨rfl,hb⟩;refine ⟨_,rfl,?_⟩;have n0_:=Aside0.mk (blk_below (g:=gb117) (o:=.cells #[.int .i64 a0_0,.int .i64 a0_1,.int .i64 a0_2,.slice A0_3 l0_3.length c0_3] 24 (0,0)) (by (with_reducible repeat (first|refine blk_drewN ?_ _|refine blk_drew ?_|refine blk_alloc ?_ _));exact BK117.out) hb);have n1_:=Aside0.mk (below_step (by repeat (first|(with_reducible first|exact HB.out|apply below_alloc|apply pw_below_drewN|apply below_drew1|refine below_set ?_ GE117.out)|exact HB.out)) hb);clear BK117;clear HB;have BK117:=n0_;have HB:=n1_;clear n0_ n1_;(try clear hb);(try clear hb2);(try clear hk);(try clear hi);have hcz8_0 : w7.cell? ⟨gb117,0,none⟩ = some (.int .i64 a0_0):=(blk_cell BK117.out 0).trans rfl;have hcz8_1 : w7.cell? ⟨gb117,1,none⟩ = some (.int .i64 a0_1):=(blk_cell BK117.out 1).trans rfl;have hcz8_2 : w7.cell? ⟨gb117,2,none⟩ = some (.int .i64 a0_2):=(blk_cell BK117.out 2).trans rfl;have hcz8_3 : w7.cell? ⟨gb117,3,none⟩ = some (.slice A0_3 l0_3.length c0_3):=(blk_cell BK117.out 3).trans rfl;have hfz8_0:=blk_frozen BK117.out 0;have hfz8_1:=blk_frozen BK117.out 1;have hfz8_2:=blk_frozen BK117.out 2;have hfz8_3:=blk_frozen BK117.out 3)|((with_reducible refine gate_callee (f:=41) rfl ?_);refine goesL_ (some 11) rfl rfl Try.func41 (by kernel_rfl) rfl #[.agg #[.int .i64 a0_0,.int .i64 a0_1,.int .i64 a0_2,.slice A0_3 l0_3.length c0_3],.bool false] rfl (by (try simp only [List.map_toArray,List.map_cons,List.map_nil]);first|done|rfl|(simp only [List.length_drop,List.length_take];rfl)) ?_;(with_reducible refine (grammar_Least.calls k a0_0 a0_1 a0_2 _ _ l0_3 false t119 _ ?side1 ?side2 A4.out).mono ?_);(case side1=>repeat (first|exact (Kd.C_below HR0_3.out HB.out)|(with_reducible refine Kd.C_alloc ?_ _)|(with_reducible refine Kd.C_drewN ?_ _)|(with_reducible refine Kd.C_drew ?_)));(case side2=>exact HC0_3.out);rintro e w9 ⟨rfl,hb⟩;refine ⟨_,rfl,?_⟩;have n0_:=Aside0.mk (blk_below (g:=gb117) (o:=.cells #[.int .i64 a0_0,.int .i64 a0_1,.int .i64 a0_2,.slice A0_3 l0_3.length c0_3] 24 (0,0)) (by (with_reducible repeat (first|refine blk_drewN ?_ _|refine blk_drew ?_|refine blk_alloc ?_ _));exact BK117.out) hb);have n1_:=Aside0.mk (below_step (by repeat (first|(with_reducible first|exact HB.out|apply below_alloc|apply pw_below_drewN|apply below_drew1|refine below_set ?_ GE117.out)|exact HB.out)) hb);clear BK117;clear HB;have BK117:=n0_;have HB:=n1_;clear n0_ n1_;(try clear hb);(try clear hb2);(try clear hk);(try clear hi)))
  go_ret2
  exact ⟨by first|rfl|(simp [errW_none,errW_some] <;> rfl)|(simp [*,errW_none,errW_some] <;> rfl),by repeat (first|(with_reducible first|exact HB.out|apply below_alloc|apply pw_below_drewN|apply below_drew1|refine below_set ?_ GE117.out)|exact HB.out)⟩
 ·rw [if_neg c3] at H
  have c3b0 : (t118 == 0) = false:=beq_eq_false_iff_ne.mpr c3
  have c3b1 : (t118 != 0) = true:=bne_iff_ne.mpr c3
  simp only [Option.some.injEq,Prod.mk.injEq] at H
  obtain ⟨rfl,rfl⟩:=H
  go_enter Try.func16,Try.ntmps16
  go_wp2_with (first|((with_reducible refine gate_dst (N:=1) rfl ?_);refine box_event ?hg (N:=1) ?hd (cs:=#[.int .i64 a0_0,.int .i64 a0_1,.int .i64 a0_2,.slice A0_3 l0_3.length c0_3]) (t:=24) ?hr ?_;(case hd=>rfl);(case hg=>rfl);(case hr=>first|(go_simp;done)|(go_simp;rfl));intro gb117 hg w10 hbox hb;have n0_:=Aside0.mk (below_step (by repeat (first|(with_reducible first|exact HB.out|apply below_alloc|apply pw_below_drewN|apply below_drew1)|exact HB.out)) hb);have n1_:=Aside0.mk (hbox);have n2_:=Aside0.mk ((by rw [hg];exact (below_size (by repeat (first|(with_reducible first|exact HB.out|apply below_alloc|apply pw_below_drewN|apply below_drew1)|exact HB.out))) : w.heap.size ≤ gb117));have n3_:=Aside0.mk ((by rw [hg];exact (below_size (by repeat (first|(with_reducible first|exact HB.out|apply below_alloc|apply pw_below_drewN|apply below_drew1)|exact HB.out))) : w.heap.size ≤ gb117));clear HB;have HB:=n0_;have BK117:=n1_;have GW117:=n2_;have GE117:=n3_;clear n0_ n1_ n2_ n3_;clear hb hbox hg;have hcz11_0 : w10.cell? ⟨gb117,0,none⟩ = some (.int .i64 a0_0):=(blk_cell BK117.out 0).trans rfl;have hcz11_1 : w10.cell? ⟨gb117,1,none⟩ = some (.int .i64 a0_1):=(blk_cell BK117.out 1).trans rfl;have hcz11_2 : w10.cell? ⟨gb117,2,none⟩ = some (.int .i64 a0_2):=(blk_cell BK117.out 2).trans rfl;have hcz11_3 : w10.cell? ⟨gb117,3,none⟩ = some (.slice A0_3 l0_3.length c0_3):=(blk_cell BK117.out 3).trans rfl;have hfz11_0:=blk_frozen BK117.out 0;have hfz11_1:=blk_frozen BK117.out 1;have hfz11_2:=blk_frozen BK117.out 2;have hfz11_3:=blk_frozen BK117.out 3)|((with_reducible refine gate_callee (f:=40) rfl ?_);refine goesL_ (some 6) rfl rfl Try.func40 (by kernel_rfl) rfl #[.agg #[.int .i64 a0_0,.int .i64 a0_1,.int .i64 a0_2,.slice A0_3 l0_3.length c0_3]] rfl (by (try simp only [List.map_toArray,List.map_cons,List.map_nil]);first|done|rfl|(simp only [List.length_drop,List.length_take];rfl)) ?_;(with_reducible refine (grammar_Check.calls k a0_0 a0_1 a0_2 _ _ l0_3 t118 _ ?side1 ?side2 A2.out).mono ?_);(case side1=>repeat (first|exact (Kd.C_below HR0_3.out HB.out)|(with_reducible refine Kd.C_alloc ?_ _)|(with_reducible refine Kd.C_drewN ?_ _)|(with_reducible refine Kd.C_drew ?_)));(case side2=>exact HC0_3.out);rintro e w12 ⟨rfl,hb⟩;refine ⟨_,rfl,?_⟩;have n0_:=Aside0.mk (blk_below (g:=gb117) (o:=.cells #[.int .i64 a0_0,.int .i64 a0_1,.int .i64 a0_2,.slice A0_3 l0_3.length c0_3] 24 (0,0)) (by (with_reducible repeat (first|refine blk_drewN ?_ _|refine blk_drew ?_|refine blk_alloc ?_ _));exact BK117.out) hb);have n1_:=Aside0.mk (below_step (by repeat (first|(with_reducible first|exact HB.out|apply below_alloc|apply pw_below_drewN|apply below_drew1|refine below_set ?_ GE117.out)|exact HB.out)) hb);clear BK117;clear HB;have BK117:=n0_;have HB:=n1_;clear n0_ n1_;(try clear hb);(try clear hb2);(try clear hk);(try clear hi)))
  go_ret2
  exact ⟨by first|rfl|(simp [errW_none,errW_some] <;> rfl)|(simp [*,errW_none,errW_some] <;> rfl),by repeat (first|(with_reducible first|exact HB.out|apply below_alloc|apply pw_below_drewN|apply below_drew1|refine below_set ?_ GE117.out)|exact HB.out)⟩
end Go.Proofs.Ytnkackiocigdoaa.GA
