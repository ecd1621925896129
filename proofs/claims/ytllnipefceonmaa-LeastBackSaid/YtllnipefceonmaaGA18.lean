-- Written by ext.py, a program of this session.
import Derived.Test.YtllnipefceonmaaGA0
import Derived.Test.YtllnipefceonmaaGA11
import Derived.Test.YtllnipefceonmaaGA17
namespace Go.Proofs.Ytllnipefceonmaa.GA
open Go.RowKit Go.Proofs.YtllnipefceonmaaW.PrintWords Go.Proofs.YtllnipefceonmaaW.PrintLast Go.Proofs.YtllnipefceonmaaW.PrintMore
attribute [local go_sem] max2_int min2_int max_two min_two max_three min_three max_four min_four cellIs_set   -- for this text's walks alone
set_option linter.unusedVariables false
set_option linter.unusedSimpArgs false
/-! ### net_Sure: function 8 -/
def net_Sure.l0 : Nat → List Int → Int → Int → Int → Int → List (S45) → Int → Int → Int → Int → List (List Int) → Int → Int → Option (Int × Int × (List (List Int)) × Int × Int × Int)
 | 0,_,_,_,_,_,_,_,_,_,_,_,_,_=>none
 | k + 1,x31,x32,x33,x239000,x239001,x239002,x239003,x239004,x248000,x248001,x248002,x248003,x248004=>if x33 < x32 then (if 0 ≤ x33 then (if x33 < (x31.length : Int) then (if (Go.bits .and .u32 (rd x31 x33) x239004) = 0 then (net_Sure.l0 k x31 x32 (wrap64 (x33 + 1)) x239000 x239001 x239002 x239003 x239004 x248000 x248001 x248002 x248003 x248004) else (net_Sure.l0 k x31 x32 (wrap64 (x33 + 1)) x239000 x239001 x239002 x239003 x239004 x248000 x248001 x248002 x248003 (Go.bits .or .u32 x248004 (shl .u32 1 x33)))) else (none)) else (none)) else (some (x248000,x248001,x248002,x248003,x248004,0))
def net_Sure.f (k : Nat) (a0_0 : Int) (a0_1 : Int) (l0_2 : List (S45)) (a0_3 : Int) (a0_4 : Int) : Option (Int × Int × (List (List Int)) × Int × Int × Int):=(net_Check.f k a0_0 a0_1 l0_2 a0_3 a0_4).bind fun t240=>(if t240 = 0 then ((net_Sets.f k a0_0 a0_1 l0_2 a0_3 a0_4).bind fun bt241=>(if (bt241.1.length : Int) > 7 then (some (0,0,([] : List (List Int)),0,0,1)) else (net_Sure.l0 k bt241.1 (bt241.1.length : Int) 0 a0_0 a0_1 l0_2 a0_3 a0_4 (bt241.1.length : Int) a0_1 bt241.2 0 0))) else (some (0,0,([] : List (List Int)),0,0,t240)))
theorem net_Sure.mono_l : ∀ k,(∀ y0 y1 y2 y3 y4 y5 y6 y7 y8 y9 y10 y11 y12,LeO (net_Sure.l0 k y0 y1 y2 y3 y4 y5 y6 y7 y8 y9 y10 y11 y12) (net_Sure.l0 (k + 1) y0 y1 y2 y3 y4 y5 y6 y7 y8 y9 y10 y11 y12))
 | 0=>fun _ _ _ _ _ _ _ _ _ _ _ _ _ r h=>by simp [net_Sure.l0] at h
 | k + 1=>by
  have ih0:=net_Sure.mono_l k
  ·intro y0 y1 y2 y3 y4 y5 y6 y7 y8 y9 y10 y11 y12
   unfold net_Sure.l0
   repeat' first
   | (with_reducible exact ih0 _ _ _ _ _ _ _ _ _ _ _ _ _)
   | (with_reducible exact net_Check.mono _ _ _ _ _ _)
   | (with_reducible exact net_Sets.mono _ _ _ _ _ _)
   | (with_reducible exact LeO.refl _)
   | (with_reducible exact LeO.none _)
   | (with_reducible refine LeO.ite ?_ ?_)
   | (with_reducible refine LeO.bind ?_ (fun _=>?_))
   | exact ih0 _ _ _ _ _ _ _ _ _ _ _ _ _
   | exact net_Check.mono _ _ _ _ _ _
   | exact net_Sets.mono _ _ _ _ _ _
   | exact LeO.none _
   | refine LeO.ite ?_ ?_
   | refine LeO.bind ?_ (fun _=>?_)
theorem net_Sure.mono : ∀ a0 a1 a2 a3 a4 k,LeO (net_Sure.f k a0 a1 a2 a3 a4) (net_Sure.f (k + 1) a0 a1 a2 a3 a4):=by
 intro a0 a1 a2 a3 a4 k
 have ih0:=net_Sure.mono_l k
 unfold net_Sure.f
 repeat' first
   | (with_reducible exact ih0 _ _ _ _ _ _ _ _ _ _ _ _ _)
   | (with_reducible exact net_Check.mono _ _ _ _ _ _)
   | (with_reducible exact net_Sets.mono _ _ _ _ _ _)
   | (with_reducible exact LeO.refl _)
   | (with_reducible exact LeO.none _)
   | (with_reducible refine LeO.ite ?_ ?_)
   | (with_reducible refine LeO.bind ?_ (fun _=>?_))
   | exact ih0 _ _ _ _ _ _ _ _ _ _ _ _ _
   | exact net_Check.mono _ _ _ _ _ _
   | exact net_Sets.mono _ _ _ _ _ _
   | exact LeO.none _
   | refine LeO.ite ?_ ?_
   | refine LeO.bind ?_ (fun _=>?_)
set_option maxHeartbeats 8000000 in
set_option maxRecDepth 100000 in
theorem net_Sure.calls (k : Nat) (a0_0 : Int) (a0_1 : Int) (A0_2 : Option Addr) (c0_2 : Nat) (l0_2 : List (S45)) (a0_3 : Int) (a0_4 : Int) (r1 : Int) (r2 : Int) (r3 : List (List Int)) (r4 : Int) (r5 : Int) (r6 : Int) (w : World) (hr0_2 : Kd.C k45 w A0_2 l0_2.length l0_2) (hc0_2 : l0_2.length ≤ c0_2) (h : net_Sure.f k a0_0 a0_1 l0_2 a0_3 a0_4 = some (r1,r2,r3,r4,r5,r6)) :
  Calls Try.prog 8 #[.agg #[.int .i64 a0_0,.int .i64 a0_1,.slice A0_2 l0_2.length c0_2,.int .u32 a0_3,.int .u32 a0_4]] w fun e w'=>∃ v2_ : Value,e = .returned (.tuple #[.agg #[.int .i64 r1,.int .i64 r2,v2_,.int .i64 r4,.int .u32 r5],.int .i64 r6]) ∧ Kd.S (Kd.slice 3 (Kd.int .i64)) 40 w' w.heap.size (fun _=>True) v2_ r3 ∧ Below w.heap.size w w':=by
 have hu32:=Try.underlying32
 have hu25:=Try.underlying25
 have HR0_2:=Aside0.mk hr0_2
 have HC0_2:=Aside0.mk hc0_2
 clear hr0_2 hc0_2
 have HB:=Aside0.mk (Below.refl w.heap.size w)
 have H : ((net_Check.f k a0_0 a0_1 l0_2 a0_3 a0_4).bind fun t240=>(if t240 = 0 then ((net_Sets.f k a0_0 a0_1 l0_2 a0_3 a0_4).bind fun bt241=>(if (bt241.1.length : Int) > 7 then (some (0,0,([] : List (List Int)),0,0,1)) else (net_Sure.l0 k bt241.1 (bt241.1.length : Int) 0 a0_0 a0_1 l0_2 a0_3 a0_4 (bt241.1.length : Int) a0_1 bt241.2 0 0))) else (some (0,0,([] : List (List Int)),0,0,t240)))) = some (r1,r2,r3,r4,r5,r6):=h
 clear h
 replace H:=Option.bind_eq_some_iff.mp H
 obtain ⟨t240,A20,H⟩:=H
 replace H : (if t240 = 0 then ((net_Sets.f k a0_0 a0_1 l0_2 a0_3 a0_4).bind fun bt241=>(if (bt241.1.length : Int) > 7 then (some (0,0,([] : List (List Int)),0,0,1)) else (net_Sure.l0 k bt241.1 (bt241.1.length : Int) 0 a0_0 a0_1 l0_2 a0_3 a0_4 (bt241.1.length : Int) a0_1 bt241.2 0 0))) else (some (0,0,([] : List (List Int)),0,0,t240))) = some (r1,r2,r3,r4,r5,r6):=H
 have A2:=Aside0.mk A20
 clear A20
 by_cases c3 : t240 = 0
 ·rw [if_pos c3] at H
  have c3b0 : (t240 == 0) = true:=beq_iff_eq.mpr c3
  have c3b1 : (t240 != 0) = false:=bne_eq_false_iff_eq.mpr c3
  clear c3
  replace H:=Option.bind_eq_some_iff.mp H
  obtain ⟨⟨t241,t244⟩,A40,H⟩:=H
  replace H : (if (t241.length : Int) > 7 then (some (0,0,([] : List (List Int)),0,0,1)) else (net_Sure.l0 k t241 (t241.length : Int) 0 a0_0 a0_1 l0_2 a0_3 a0_4 (t241.length : Int) a0_1 t244 0 0)) = some (r1,r2,r3,r4,r5,r6):=H
  have A4:=Aside0.mk A40
  clear A40
  by_cases c5 : (t241.length : Int) > 7
  ·rw [if_pos c5] at H
   have c5b0 : decide (7 < (t241.length : Int)) = true:=decide_eq_true c5
   have c5b1 : decide (7 < t241.length) = true:=decide_eq_true (by omega)
   clear c5
   simp only [Option.some.injEq,Prod.mk.injEq] at H
   obtain ⟨rfl,rfl,rfl,rfl,rfl,rfl⟩:=H
   go_enter Try.func8,Try.ntmps8
   go_wp2_with (first|((with_reducible refine gate_dst (N:=1) rfl ?_);refine box_event ?hg (N:=1) ?hd (cs:=#[.int .i64 a0_0,.int .i64 a0_1,.slice A0_2 l0_2.length c0_2,.int .u32 a0_3,.int .u32 a0_4]) (t:=32) ?hr ?_;(case hd=>rfl);(case hg=>rfl);(case hr=>first|(go_simp;done)|(go_simp;rfl));intro gb238 hg w6 hbox hb;have n0_:=Aside0.mk (below_step (by repeat (first|(with_reducible first|exact HB.out|apply below_alloc|apply pw_below_drewN|apply below_drew1)|exact HB.out)) hb);have n1_:=Aside0.mk (hbox);have n2_:=Aside0.mk ((by rw [hg];exact (below_size (by repeat (first|(with_reducible first|exact HB.out|apply below_alloc|apply pw_below_drewN|apply below_drew1)|exact HB.out))) : w.heap.size ≤ gb238));have n3_:=Aside0.mk ((by rw [hg];exact (below_size (by repeat (first|(with_reducible first|exact HB.out|apply below_alloc|apply pw_below_drewN|apply below_drew1)|exact HB.out))) : w.heap.size ≤ gb238));clear HB;have HB:=n0_;have BK238:=n1_;have GW238:=n2_;have GE238:=n3_;clear n0_ n1_ n2_ n3_;clear hb hbox hg)|((with_reducible refine gate_dst (N:=2) rfl ?_);refine box_event ?hg (N:=2) ?hd (cs:=#[.int .i64 0,.int .i64 0,.slice none 0 0,.int .i64 0,.int .u32 0]) (t:=25) ?hr ?_;(case hd=>rfl);(case hg=>rfl);(case hr=>first|(go_simp;done)|(go_simp;rfl));intro gb239 hg w7 hbox hb;have n0_:=Aside0.mk (blk_below (g:=gb238) (o:=.cells #[.int .i64 a0_0,.int .i64 a0_1,.slice A0_2 l0_2.length c0_2,.int .u32 a0_3,.int .u32 a0_4] 32 (0,0)) (by (with_reducible repeat (first|refine blk_drewN ?_ _|refine blk_drew ?_|refine blk_alloc ?_ _));exact BK238.out) hb);have n1_:=Aside0.mk (below_step (by repeat (first|(with_reducible first|exact HB.out|apply below_alloc|apply pw_below_drewN|apply below_drew1|refine below_set ?_ GE238.out)|exact HB.out)) hb);have n2_:=Aside0.mk (hbox);have n3_:=Aside0.mk ((by rw [hg];exact (below_size (by repeat (first|(with_reducible first|exact HB.out|apply below_alloc|apply pw_below_drewN|apply below_drew1|refine below_set ?_ GE238.out)|exact HB.out))) : w.heap.size ≤ gb239));have n4_:=Aside0.mk ((by rw [hg];exact (below_size (by repeat (first|(with_reducible first|exact HB.out|apply below_alloc|apply pw_below_drewN|apply below_drew1|refine below_set ?_ GE238.out)|exact HB.out))) : w.heap.size ≤ gb239));have n5_:=Aside0.mk ((by rw [hg];exact Nat.ne_of_lt (blk_lt (g:=gb238) (o:=.cells #[.int .i64 a0_0,.int .i64 a0_1,.slice A0_2 l0_2.length c0_2,.int .u32 a0_3,.int .u32 a0_4] 32 (0,0)) (by (with_reducible repeat (first|refine blk_drewN ?_ _|refine blk_drew ?_|refine blk_alloc ?_ _));exact BK238.out)) : gb238 ≠ gb239));have n6_:=Aside0.mk ((by rw [hg];exact Nat.ne_of_gt (blk_lt (g:=gb238) (o:=.cells #[.int .i64 a0_0,.int .i64 a0_1,.slice A0_2 l0_2.length c0_2,.int .u32 a0_3,.int .u32 a0_4] 32 (0,0)) (by (with_reducible repeat (first|refine blk_drewN ?_ _|refine blk_drew ?_|refine blk_alloc ?_ _));exact BK238.out)) : gb239 ≠ gb238));clear BK238;clear HB;have BK238:=n0_;have HB:=n1_;have BK239:=n2_;have GW239:=n3_;have GE239:=n4_;have NB238_239:=n5_;have NB239_238:=n6_;clear n0_ n1_ n2_ n3_ n4_ n5_ n6_;clear hb hbox hg;have hnb8:=NB238_239.out;have hnc8:=NB239_238.out;have hcz9_0 : w7.cell? ⟨gb238,0,none⟩ = some (.int .i64 a0_0):=(blk_cell BK238.out 0).trans rfl;have hcz9_1 : w7.cell? ⟨gb238,1,none⟩ = some (.int .i64 a0_1):=(blk_cell BK238.out 1).trans rfl;have hcz9_2 : w7.cell? ⟨gb238,2,none⟩ = some (.slice A0_2 l0_2.length c0_2):=(blk_cell BK238.out 2).trans rfl;have hcz9_3 : w7.cell? ⟨gb238,3,none⟩ = some (.int .u32 a0_3):=(blk_cell BK238.out 3).trans rfl;have hcz9_4 : w7.cell? ⟨gb238,4,none⟩ = some (.int .u32 a0_4):=(blk_cell BK238.out 4).trans rfl;have hfz9_0:=blk_frozen BK238.out 0;have hfz9_1:=blk_frozen BK238.out 1;have hfz9_2:=blk_frozen BK238.out 2;have hfz9_3:=blk_frozen BK238.out 3;have hfz9_4:=blk_frozen BK238.out 4)|((with_reducible refine gate_callee (f:=12) rfl ?_);refine goesL_ (some 11) rfl rfl Try.func12 (by kernel_rfl) rfl #[.agg #[.int .i64 a0_0,.int .i64 a0_1,.slice A0_2 l0_2.length c0_2,.int .u32 a0_3,.int .u32 a0_4]] rfl (by (try simp only [List.map_toArray,List.map_cons,List.map_nil]);first|done|rfl|(simp only [List.length_drop,List.length_take];rfl)) ?_;(with_reducible refine (net_Check.calls k a0_0 a0_1 _ _ l0_2 a0_3 a0_4 t240 _ ?side1 ?side2 A2.out).mono ?_);(case side1=>repeat (first|exact (Kd.C_below HR0_2.out HB.out)|(with_reducible refine Kd.C_alloc ?_ _)|(with_reducible refine Kd.C_drewN ?_ _)|(with_reducible refine Kd.C_drew ?_)));(case side2=>exact HC0_2.out);rintro e w10 ⟨rfl,hb⟩;refine ⟨_,rfl,?_⟩;have n0_:=Aside0.mk (blk_below (g:=gb238) (o:=.cells #[.int .i64 a0_0,.int .i64 a0_1,.slice A0_2 l0_2.length c0_2,.int .u32 a0_3,.int .u32 a0_4] 32 (0,0)) (by (with_reducible repeat (first|refine blk_drewN ?_ _|refine blk_drew ?_|refine blk_alloc ?_ _));exact BK238.out) hb);have n1_:=Aside0.mk (blk_below (g:=gb239) (o:=.cells #[.int .i64 0,.int .i64 0,.slice none 0 0,.int .i64 0,.int .u32 0] 25 (0,0)) (by (with_reducible repeat (first|refine blk_drewN ?_ _|refine blk_drew ?_|refine blk_alloc ?_ _));exact BK239.out) hb);have n2_:=Aside0.mk (below_step (by repeat (first|(with_reducible first|exact HB.out|apply below_alloc|apply pw_below_drewN|apply below_drew1|refine below_set ?_ GE238.out|refine below_set ?_ GE239.out)|exact HB.out)) hb);clear BK238;clear BK239;clear HB;have BK238:=n0_;have BK239:=n1_;have HB:=n2_;clear n0_ n1_ n2_;(try clear hb);(try clear hb2);(try clear hk);(try clear hi);have hcz11_0 : w10.cell? ⟨gb238,0,none⟩ = some (.int .i64 a0_0):=(blk_cell BK238.out 0).trans rfl;have hcz11_1 : w10.cell? ⟨gb238,1,none⟩ = some (.int .i64 a0_1):=(blk_cell BK238.out 1).trans rfl;have hcz11_2 : w10.cell? ⟨gb238,2,none⟩ = some (.slice A0_2 l0_2.length c0_2):=(blk_cell BK238.out 2).trans rfl;have hcz11_3 : w10.cell? ⟨gb238,3,none⟩ = some (.int .u32 a0_3):=(blk_cell BK238.out 3).trans rfl;have hcz11_4 : w10.cell? ⟨gb238,4,none⟩ = some (.int .u32 a0_4):=(blk_cell BK238.out 4).trans rfl;have hfz11_0:=blk_frozen BK238.out 0;have hfz11_1:=blk_frozen BK238.out 1;have hfz11_2:=blk_frozen BK238.out 2;have hfz11_3:=blk_frozen BK238.out 3;have hfz11_4:=blk_frozen BK238.out 4)|((with_reducible refine gate_callee (f:=14) rfl ?_);refine goesL_ (some 18) rfl rfl Try.func14 (by kernel_rfl) rfl #[.agg #[.int .i64 a0_0,.int .i64 a0_1,.slice A0_2 l0_2.length c0_2,.int .u32 a0_3,.int .u32 a0_4]] rfl (by (try simp only [List.map_toArray,List.map_cons,List.map_nil]);first|done|rfl|(simp only [List.length_drop,List.length_take];rfl)) ?_;(with_reducible refine (net_Sets.calls k a0_0 a0_1 _ _ l0_2 a0_3 a0_4 t241 t244 _ ?side1 ?side2 A4.out).mono ?_);(case side1=>repeat (first|exact (Kd.C_below HR0_2.out HB.out)|(with_reducible refine Kd.C_alloc ?_ _)|(with_reducible refine Kd.C_drewN ?_ _)|(with_reducible refine Kd.C_drew ?_)));(case side2=>exact HC0_2.out);rintro e w12 ⟨v242,v245,rfl,ho0,ho1,hb⟩;refine ⟨_,rfl,?_⟩;have n0_:=Aside0.mk (Kd.R_lower ho0 (below_size (by repeat (first|(with_reducible first|exact HB.out|apply below_alloc|apply pw_below_drewN|apply below_drew1|refine below_set ?_ GE238.out|refine below_set ?_ GE239.out)|exact HB.out))));have n1_:=Aside0.mk (Kd.S_lower ho1 (below_size (by repeat (first|(with_reducible first|exact HB.out|apply below_alloc|apply pw_below_drewN|apply below_drew1|refine below_set ?_ GE238.out|refine below_set ?_ GE239.out)|exact HB.out))));have n2_:=Aside0.mk (blk_below (g:=gb238) (o:=.cells #[.int .i64 a0_0,.int .i64 a0_1,.slice A0_2 l0_2.length c0_2,.int .u32 a0_3,.int .u32 a0_4] 32 (0,0)) (by (with_reducible repeat (first|refine blk_drewN ?_ _|refine blk_drew ?_|refine blk_alloc ?_ _));exact BK238.out) hb);have n3_:=Aside0.mk (blk_below (g:=gb239) (o:=.cells #[.int .i64 0,.int .i64 0,.slice none 0 0,.int .i64 0,.int .u32 0] 25 (0,0)) (by (with_reducible repeat (first|refine blk_drewN ?_ _|refine blk_drew ?_|refine blk_alloc ?_ _));exact BK239.out) hb);have n4_:=Aside0.mk (below_step (by repeat (first|(with_reducible first|exact HB.out|apply below_alloc|apply pw_below_drewN|apply below_drew1|refine below_set ?_ GE238.out|refine below_set ?_ GE239.out)|exact HB.out)) hb);clear BK238;clear BK239;clear HB;have HO243:=n0_;have HO246:=n1_;have BK238:=n2_;have BK239:=n3_;have HB:=n4_;clear n0_ n1_ n2_ n3_ n4_;(try clear hb);(try clear hb2);(try clear hk);(try clear hi);(try clear ho0);(try clear ho1);obtain ⟨Ao13,co13,eo13⟩:=Kd.R_slice HO243.out;subst eo13;have hcz14_0 : w12.cell? ⟨gb239,0,none⟩ = some (.int .i64 0):=(blk_cell BK239.out 0).trans rfl;have hcz14_1 : w12.cell? ⟨gb239,1,none⟩ = some (.int .i64 0):=(blk_cell BK239.out 1).trans rfl;have hcz14_2 : w12.cell? ⟨gb239,2,none⟩ = some (.slice none 0 0):=(blk_cell BK239.out 2).trans rfl;have hcz14_3 : w12.cell? ⟨gb239,3,none⟩ = some (.int .i64 0):=(blk_cell BK239.out 3).trans rfl;have hcz14_4 : w12.cell? ⟨gb239,4,none⟩ = some (.int .u32 0):=(blk_cell BK239.out 4).trans rfl;have hfz14_0:=blk_frozen BK239.out 0;have hfz14_1:=blk_frozen BK239.out 1;have hfz14_2:=blk_frozen BK239.out 2;have hfz14_3:=blk_frozen BK239.out 3;have hfz14_4:=blk_frozen BK239.out 4))
   refine bodyPost_ret (results_ct rfl _ _ gb239 25 #[.int .i64 0,.int .i64 0,.slice none 0 0,.int .i64 0,.int .u32 0] (0,0) _ rfl (by (with_reducible repeat (first|refine blk_drewN ?_ _|refine blk_drew ?_|refine blk_alloc ?_ _));refine blk_put (cs:=#[.int .i64 0,.int .i64 0,.slice none 0 0,.int .i64 0,.int .u32 0]) ?_ 4 _ rfl;(with_reducible repeat (first|refine blk_drewN ?_ _|refine blk_drew ?_|refine blk_alloc ?_ _));refine blk_put (cs:=#[.int .i64 0,.int .i64 0,.slice none 0 0,.int .i64 0,.int .u32 0]) ?_ 3 _ rfl;(with_reducible repeat (first|refine blk_drewN ?_ _|refine blk_drew ?_|refine blk_alloc ?_ _));refine blk_put (cs:=#[.int .i64 0,.int .i64 0,.slice none 0 0,.int .i64 0,.int .u32 0]) ?_ 2 _ rfl;(with_reducible repeat (first|refine blk_drewN ?_ _|refine blk_drew ?_|refine blk_alloc ?_ _));refine blk_put (cs:=#[.int .i64 0,.int .i64 0,.slice none 0 0,.int .i64 0,.int .u32 0]) ?_ 1 _ rfl;(with_reducible repeat (first|refine blk_drewN ?_ _|refine blk_drew ?_|refine blk_alloc ?_ _));refine blk_put (cs:=#[.int .i64 0,.int .i64 0,.slice none 0 0,.int .i64 0,.int .u32 0]) ?_ 0 _ rfl;(with_reducible repeat (first|refine blk_drewN ?_ _|refine blk_drew ?_|refine blk_alloc ?_ _));exact BK239.out) Try.underlying25 rfl (by kernel_rfl)) rfl ?_
   exact ⟨_,by first|rfl|(simp [errW_none,errW_some] <;> rfl)|(simp [*,errW_none,errW_some] <;> rfl),by first|exact Kd.S_nil _ _ _ _ _|exact Kd.N_nil _ _ _ _ _|exact Kd.V_nil _ _ _ _ _|exact Kd.Q_nil _ _ _ _ _|exact Kd.R_nil _ _ _ _ _,by repeat (first|(with_reducible first|exact HB.out|apply below_alloc|apply pw_below_drewN|apply below_drew1|refine below_set ?_ GE238.out|refine below_set ?_ GE239.out)|exact HB.out)⟩
  ·rw [if_neg c5] at H
   have c5b0 : decide (7 < (t241.length : Int)) = false:=decide_eq_false c5
   have c5b1 : decide (7 < t241.length) = false:=decide_eq_false (by omega)
   clear c5
   have H':=Aside0.mk H
   clear H
   go_enter Try.func8,Try.ntmps8
   go_wp2_with (first|((with_reducible refine gate_dst (N:=1) rfl ?_);refine box_event ?hg (N:=1) ?hd (cs:=#[.int .i64 a0_0,.int .i64 a0_1,.slice A0_2 l0_2.length c0_2,.int .u32 a0_3,.int .u32 a0_4]) (t:=32) ?hr ?_;(case hd=>rfl);(case hg=>rfl);(case hr=>first|(go_simp;done)|(go_simp;rfl));intro gb238 hg w15 hbox hb;have n0_:=Aside0.mk (below_step (by repeat (first|(with_reducible first|exact HB.out|apply below_alloc|apply pw_below_drewN|apply below_drew1)|exact HB.out)) hb);have n1_:=Aside0.mk (hbox);have n2_:=Aside0.mk ((by rw [hg];exact (below_size (by repeat (first|(with_reducible first|exact HB.out|apply below_alloc|apply pw_below_drewN|apply below_drew1)|exact HB.out))) : w.heap.size ≤ gb238));have n3_:=Aside0.mk ((by rw [hg];exact (below_size (by repeat (first|(with_reducible first|exact HB.out|apply below_alloc|apply pw_below_drewN|apply below_drew1)|exact HB.out))) : w.heap.size ≤ gb238));clear HB;have HB:=n0_;have BK238:=n1_;have GW238:=n2_;have GE238:=n3_;clear n0_ n1_ n2_ n3_;clear hb hbox hg)|((with_reducible refine gate_dst (N:=2) rfl ?_);refine box_event ?hg (N:=2) ?hd (cs:=#[.int .i64 0,.int .i64 0,.slice none 0 0,.int .i64 0,.int .u32 0]) (t:=25) ?hr ?_;(case hd=>rfl);(case hg=>rfl);(case hr=>first|(go_simp;done)|(go_simp;rfl));intro gb239 hg w16 hbox hb;have n0_:=Aside0.mk (blk_below (g:=gb238) (o:=.cells #[.int .i64 a0_0,.int .i64 a0_1,.slice A0_2 l0_2.length c0_2,.int .u32 a0_3,.int .u32 a0_4] 32 (0,0)) (by (with_reducible repeat (first|refine blk_drewN ?_ _|refine blk_drew ?_|refine blk_alloc ?_ _));exact BK238.out) hb);have n1_:=Aside0.mk (below_step (by repeat (first|(with_reducible first|exact HB.out|apply below_alloc|apply pw_below_drewN|apply below_drew1|refine below_set ?_ GE238.out)|exact HB.out)) hb);have n2_:=Aside0.mk (hbox);have n3_:=Aside0.mk ((by rw [hg];exact (below_size (by repeat (first|(with_reducible first|exact HB.out|apply below_alloc|apply pw_below_drewN|apply below_drew1|refine below_set ?_ GE238.out)|exact HB.out))) : w.heap.size ≤ gb239));have n4_:=Aside0.mk ((by rw [hg];exact (below_size (by repeat (first|(with_reducible first|exact HB.out|apply below_alloc|apply pw_below_drewN|apply below_drew1|refine below_set ?_ GE238.out)|exact HB.out))) : w.heap.size ≤ gb239));have n5_:=Aside0.mk ((by rw [hg];exact Nat.ne_of_lt (blk_lt (g:=gb238) (o:=.cells #[.int .i64 a0_0,.int .i64 a0_1,.slice A0_2 l0_2.length c0_2,.int .u32 a0_3,.int .u32 a0_4] 32 (0,0)) (by (with_reducible repeat (first|refine blk_drewN ?_ _|refine blk_drew ?_|refine blk_alloc ?_ _));exact BK238.out)) : gb238 ≠ gb239));have n6_:=Aside0.mk ((by rw [hg];exact Nat.ne_of_gt (blk_lt (g:=gb238) (o:=.cells #[.int .i64 a0_0,.int .i64 a0_1,.slice A0_2 l0_2.length c0_2,.int .u32 a0_3,.int .u32 a0_4] 32 (0,0)) (by (with_reducible repeat (first|refine blk_drewN ?_ _|refine blk_drew ?_|refine blk_alloc ?_ _));exact BK238.out)) : gb239 ≠ gb238));clear BK238;clear HB;have BK238:=n0_;have HB:=n1_;have BK239:=n2_;have GW239:=n3_;have GE239:=n4_;have NB238_239:=n5_;have NB239_238:=n6_;clear n0_ n1_ n2_ n3_ n4_ n5_ n6_;clear hb hbox hg;have hnb17:=NB238_239.out;have hnc17:=NB239_238.out;have hcz18_0 : w16.cell? ⟨gb238,0,none⟩ = some (.int .i64 a0_0):=(blk_cell BK238.out 0).trans rfl;have hcz18_1 : w16.cell? ⟨gb238,1,none⟩ = some (.int .i64 a0_1):=(blk_cell BK238.out 1).trans rfl;have hcz18_2 : w16.cell? ⟨gb238,2,none⟩ = some (.slice A0_2 l0_2.length c0_2):=(blk_cell BK238.out 2).trans rfl;have hcz18_3 : w16.cell? ⟨gb238,3,none⟩ = some (.int .u32 a0_3):=(blk_cell BK238.out 3).trans rfl;have hcz18_4 : w16.cell? ⟨gb238,4,none⟩ = some (.int .u32 a0_4):=(blk_cell BK238.out 4).trans rfl;have hfz18_0:=blk_frozen BK238.out 0;have hfz18_1:=blk_frozen BK238.out 1;have hfz18_2:=blk_frozen BK238.out 2;have hfz18_3:=blk_frozen BK238.out 3;have hfz18_4:=blk_frozen BK238.out 4)|((with_reducible refine gate_callee (f:=12) rfl ?_);refine goesL_ (some 11) rfl rfl Try.func12 (by kernel_rfl) rfl #[.agg #[.int .i64 a0_0,.int .i64 a0_1,.slice A0_2 l0_2.length c0_2,.int .u32 a0_3,.int .u32 a0_4]] rfl (by (try simp only [List.map_toArray,List.map_cons,List.map_nil]);first|done|rfl|(simp only [List.length_drop,List.length_take];rfl)) ?_;(with_reducible refine (net_Check.calls k a0_0 a0_1 _ _ l0_2 a0_3 a0_4 t240 _ ?side1 ?side2 A2.out).mono ?_);(case side1=>repeat (first|exact (Kd.C_below HR0_2.out HB.out)|(with_reducible refine Kd.C_alloc ?_ _)|(with_reducible refine Kd.C_drewN ?_ _)|(with_reducible refine Kd.C_drew ?_)));(case side2=>exact HC0_2.out);rintro e w19 ⟨rfl,hb⟩;refine ⟨_,rfl,?_⟩;have n0_:=Aside0.mk (blk_below (g:=gb238) (o:=.cells #[.int .i64 a0_0,.int .i64 a0_1,.slice A0_2 l0_2.length c0_2,.int .u32 a0_3,.int .u32 a0_4] 32 (0,0)) (by (with_reducible repeat (first|refine blk_drewN ?_ _|refine blk_drew ?_|refine blk_alloc ?_ _));exact BK238.out) hb);have n1_:=Aside0.mk (blk_below (g:=gb239) (o:=.cells #[.int .i64 0,.int .i64 0,.slice none 0 0,.int .i64 0,.int .u32 0] 25 (0,0)) (by (with_reducible repeat (first|refine blk_drewN ?_ _|refine blk_drew ?_|refine blk_alloc ?_ _));exact BK239.out) hb);have n2_:=Aside0.mk (below_step (by repeat (first|(with_reducible first|exact HB.out|apply below_alloc|apply pw_below_drewN|apply below_drew1|refine below_set ?_ GE238.out|refine below_set ?_ GE239.out)|exact HB.out)) hb);clear BK238;clear BK239;clear HB;have BK238:=n0_;have BK239:=n1_;have HB:=n2_;clear n0_ n1_ n2_;(try clear hb);(try clear hb2);(try clear hk);(try clear hi);have hcz20_0 : w19.cell? ⟨gb238,0,none⟩ = some (.int .i64 a0_0):=(blk_cell BK238.out 0).trans rfl;have hcz20_1 : w19.cell? ⟨gb238,1,none⟩ = some (.int .i64 a0_1):=(blk_cell BK238.out 1).trans rfl;have hcz20_2 : w19.cell? ⟨gb238,2,none⟩ = some (.slice A0_2 l0_2.length c0_2):=(blk_cell BK238.out 2).trans rfl;have hcz20_3 : w19.cell? ⟨gb238,3,none⟩ = some (.int .u32 a0_3):=(blk_cell BK238.out 3).trans rfl;have hcz20_4 : w19.cell? ⟨gb238,4,none⟩ = some (.int .u32 a0_4):=(blk_cell BK238.out 4).trans rfl;have hfz20_0:=blk_frozen BK238.out 0;have hfz20_1:=blk_frozen BK238.out 1;have hfz20_2:=blk_frozen BK238.out 2;have hfz20_3:=blk_frozen BK238.out 3;have hfz20_4:=blk_frozen BK238.out 4)|((with_reducible refine gate_callee (f:=14) rfl ?_);refine goesL_ (some 18) rfl rfl Try.func14 (by kernel_rfl) rfl #[.agg #[.int .i64 a0_0,.int .i64 a0_1,.slice A0_2 l0_2.length c0_2,.int .u32 a0_3,.int .u32 a0_4]] rfl (by (try simp only [List.map_toArray,List.map_cons,List.map_nil]);first|done|rfl|(simp only [List.length_drop,List.length_take];rfl)) ?_;(with_reducible refine (net_Sets.calls k a0_0 a0_1 _ _ l0_2 a0_3 a0_4 t241 t244 _ ?side1 ?side2 A4.out).mono ?_);(case side1=>repeat (first|exact (Kd.C_below HR0_2.out HB.out)|(with_reducible refine Kd.C_alloc ?_ _)|(with_reducible refine Kd.C_drewN ?_ _)|(with_reducible refine Kd.C_drew ?_)));(case side2=>exact HC0_2.out);rintro e w21 ⟨v242,v245,rfl,ho0,ho1,hb⟩;refine ⟨_,rfl,?_⟩;have n0_:=Aside0.mk (Kd.R_lower ho0 (below_size (by repeat (first|(with_reducible first|exact HB.out|apply below_alloc|apply pw_below_drewN|apply below_drew1|refine below_set ?_ GE238.out|refine below_set ?_ GE239.out)|exact HB.out))));have n1_:=Aside0.mk (Kd.S_lower ho1 (below_size (by repeat (first|(with_reducible first|exact HB.out|apply below_alloc|apply pw_below_drewN|apply below_drew1|refine below_set ?_ GE238.out|refine below_set ?_ GE239.out)|exact HB.out))));have n2_:=Aside0.mk (blk_below (g:=gb238) (o:=.cells #[.int .i64 a0_0,.int .i64 a0_1,.slice A0_2 l0_2.length c0_2,.int .u32 a0_3,.int .u32 a0_4] 32 (0,0)) (by (with_reducible repeat (first|refine blk_drewN ?_ _|refine blk_drew ?_|refine blk_alloc ?_ _));exact BK238.out) hb);have n3_:=Aside0.mk (blk_below (g:=gb239) (o:=.cells #[.int .i64 0,.int .i64 0,.slice none 0 0,.int .i64 0,.int .u32 0] 25 (0,0)) (by (with_reducible repeat (first|refine blk_drewN ?_ _|refine blk_drew ?_|refine blk_alloc ?_ _));exact BK239.out) hb);have n4_:=Aside0.mk (below_step (by repeat (first|(with_reducible first|exact HB.out|apply below_alloc|apply pw_below_drewN|apply below_drew1|refine below_set ?_ GE238.out|refine below_set ?_ GE239.out)|exact HB.out)) hb);clear BK238;clear BK239;clear HB;have HO243:=n0_;have HO246:=n1_;have BK238:=n2_;have BK239:=n3_;have HB:=n4_;clear n0_ n1_ n2_ n3_ n4_;(try clear hb);(try clear hb2);(try clear hk);(try clear hi);(try clear ho0);(try clear ho1);obtain ⟨Ao22,co22,eo22⟩:=Kd.R_slice HO243.out;subst eo22;have hcz23_0 : w21.cell? ⟨gb238,0,none⟩ = some (.int .i64 a0_0):=(blk_cell BK238.out 0).trans rfl;have hcz23_1 : w21.cell? ⟨gb238,1,none⟩ = some (.int .i64 a0_1):=(blk_cell BK238.out 1).trans rfl;have hcz23_2 : w21.cell? ⟨gb238,2,none⟩ = some (.slice A0_2 l0_2.length c0_2):=(blk_cell BK238.out 2).trans rfl;have hcz23_3 : w21.cell? ⟨gb238,3,none⟩ = some (.int .u32 a0_3):=(blk_cell BK238.out 3).trans rfl;have hcz23_4 : w21.cell? ⟨gb238,4,none⟩ = some (.int .u32 a0_4):=(blk_cell BK238.out 4).trans rfl;have hfz23_0:=blk_frozen BK238.out 0;have hfz23_1:=blk_frozen BK238.out 1;have hfz23_2:=blk_frozen BK238.out 2;have hfz23_3:=blk_frozen BK238.out 3;have hfz23_4:=blk_frozen BK238.out 4;obtain ⟨Ao24,co24,eo24⟩:=Kd.S_slice HO246.out;subst eo24)|((with_reducible refine gate_dst (N:=7) rfl ?_);refine box_event ?hg (N:=7) ?hd (cs:=#[.int .i64 0,.int .i64 0,.slice none 0 0,.int .i64 0,.int .u32 0]) (t:=25) ?hr ?_;(case hd=>rfl);(case hg=>rfl);(case hr=>first|(go_simp;done)|(go_simp;rfl));intro gb247 hg w25 hbox hb;have n0_:=Aside0.mk (Kd.R_below (by (with_reducible repeat (first|apply Kd.R_alloc|apply Kd.R_drewN|apply Kd.R_drew));exact HO243.out) hb);have n1_:=Aside0.mk (Kd.S_below (by (with_reducible repeat (first|apply Kd.S_alloc|apply Kd.S_drewN|apply Kd.S_drew));exact HO246.out) hb);have n2_:=Aside0.mk (blk_below (g:=gb238) (o:=.cells #[.int .i64 a0_0,.int .i64 a0_1,.slice A0_2 l0_2.length c0_2,.int .u32 a0_3,.int .u32 a0_4] 32 (0,0)) (by (with_reducible repeat (first|refine blk_drewN ?_ _|refine blk_drew ?_|refine blk_alloc ?_ _));exact BK238.out) hb);have n3_:=Aside0.mk (blk_below (g:=gb239) (o:=.cells #[.int .i64 0,.int .i64 0,.slice none 0 0,.int .i64 0,.int .u32 0] 25 (0,0)) (by (with_reducible repeat (first|refine blk_drewN ?_ _|refine blk_drew ?_|refine blk_alloc ?_ _));exact BK239.out) hb);have n4_:=Aside0.mk (below_step (by repeat (first|(with_reducible first|exact HB.out|apply below_alloc|apply pw_below_drewN|apply below_drew1|refine below_set ?_ GE238.out|refine below_set ?_ GE239.out)|exact HB.out)) hb);have n5_:=Aside0.mk (hbox);have n6_:=Aside0.mk ((by rw [hg];exact (below_size (by repeat (first|(with_reducible first|exact HB.out|apply below_alloc|apply pw_below_drewN|apply below_drew1|refine below_set ?_ GE238.out|refine below_set ?_ GE239.out)|exact HB.out))) : w.heap.size ≤ gb247));have n7_:=Aside0.mk ((by rw [hg];exact (below_size (by repeat (first|(with_reducible first|exact HB.out|apply below_alloc|apply pw_below_drewN|apply below_drew1|refine below_set ?_ GE238.out|refine below_set ?_ GE239.out)|exact HB.out))) : w.heap.size ≤ gb247));have n8_:=Aside0.mk ((by rw [hg];exact Nat.ne_of_lt (blk_lt (g:=gb238) (o:=.cells #[.int .i64 a0_0,.int .i64 a0_1,.slice A0_2 l0_2.length c0_2,.int .u32 a0_3,.int .u32 a0_4] 32 (0,0)) (by (with_reducible repeat (first|refine blk_drewN ?_ _|refine blk_drew ?_|refine blk_alloc ?_ _));exact BK238.out)) : gb238 ≠ gb247));have n9_:=Aside0.mk ((by rw [hg];exact Nat.ne_of_gt (blk_lt (g:=gb238) (o:=.cells #[.int .i64 a0_0,.int .i64 a0_1,.slice A0_2 l0_2.length c0_2,.int .u32 a0_3,.int .u32 a0_4] 32 (0,0)) (by (with_reducible repeat (first|refine blk_drewN ?_ _|refine blk_drew ?_|refine blk_alloc ?_ _));exact BK238.out)) : gb247 ≠ gb238));have n10_:=Aside0.mk ((by rw [hg];exact Nat.ne_of_lt (blk_lt (g:=gb239) (o:=.cells #[.int .i64 0,.int .i64 0,.slice none 0 0,.int .i64 0,.int .u32 0] 25 (0,0)) (by (with_reducible repeat (first|refine blk_drewN ?_ _|refine blk_drew ?_|refine blk_alloc ?_ _));exact BK239.out)) : gb239 ≠ gb247));have n11_:=Aside0.mk ((by rw [hg];exact Nat.ne_of_gt (blk_lt (g:=gb239) (o:=.cells #[.int .i64 0,.int .i64 0,.slice none 0 0,.int .i64 0,.int .u32 0] 25 (0,0)) (by (with_reducible repeat (first|refine blk_drewN ?_ _|refine blk_drew ?_|refine blk_alloc ?_ _));exact BK239.out)) : gb247 ≠ gb239));clear HO243;clear HO246;clear BK238;clear BK239;clear HB;have HO243:=n0_;have HO246:=n1_;have BK238:=n2_;have BK239:=n3_;have HB:=n4_;have BK247:=n5_;have GW247:=n6_;have GE247:=n7_;have NB238_247:=n8_;have NB247_238:=n9_;have NB239_247:=n10_;have NB247_239:=n11_;clear n0_ n1_ n2_ n3_ n4_ n5_ n6_ n7_ n8_ n9_ n10_ n11_;clear hb hbox hg;have hnb26:=NB247_238.out;have hnc26:=NB238_247.out;have hnb27:=NB247_239.out;have hnc27:=NB239_247.out;have hcz28_0 : w25.cell? ⟨gb247,0,none⟩ = some (.int .i64 0):=(blk_cell BK247.out 0).trans rfl;have hcz28_1 : w25.cell? ⟨gb247,1,none⟩ = some (.int .i64 0):=(blk_cell BK247.out 1).trans rfl;have hcz28_2 : w25.cell? ⟨gb247,2,none⟩ = some (.slice none 0 0):=(blk_cell BK247.out 2).trans rfl;have hcz28_3 : w25.cell? ⟨gb247,3,none⟩ = some (.int .i64 0):=(blk_cell BK247.out 3).trans rfl;have hcz28_4 : w25.cell? ⟨gb247,4,none⟩ = some (.int .u32 0):=(blk_cell BK247.out 4).trans rfl;have hfz28_0:=blk_frozen BK247.out 0;have hfz28_1:=blk_frozen BK247.out 1;have hfz28_2:=blk_frozen BK247.out 2;have hfz28_3:=blk_frozen BK247.out 3;have hfz28_4:=blk_frozen BK247.out 4))
   go_loopg [33] k (fun kq v33 w'=>∃ (x33_1 : Int) (x248004_1 : Int),v33 = .int .i64 x33_1 ∧ Aside0 (net_Sure.l0 kq t241 (t241.length : Int) x33_1 a0_0 a0_1 l0_2 a0_3 a0_4 (t241.length : Int) a0_1 t244 0 x248004_1 = some (r1,r2,r3,r4,r5,r6)) ∧ Aside0 (kq ≤ k) ∧ Aside0 (Kd.R (Kd.int .u32) 23 w' w.heap.size (fun _=>True) (.slice Ao22 t241.length co22) t241) ∧ Aside0 (Kd.S (Kd.slice 3 (Kd.int .i64)) 40 w' w.heap.size (fun _=>True) (.slice Ao24 t244.length co24) t244) ∧ Aside0 (w'.heap[gb238]? = some (.cells #[.int .i64 a0_0,.int .i64 a0_1,(.slice A0_2 l0_2.length c0_2),.int .u32 a0_3,.int .u32 a0_4] 32 (0,0))) ∧ Aside0 (w'.heap[gb239]? = some (.cells #[.int .i64 0,.int .i64 0,(.slice none 0 0),.int .i64 0,.int .u32 0] 25 (0,0))) ∧ Aside0 (w'.heap[gb247]? = some (.cells #[.int .i64 (t241.length : Int),.int .i64 a0_1,(.slice Ao24 t244.length co24),.int .i64 0,.int .u32 x248004_1] 25 (0,0))) ∧ Aside0 (Below w.heap.size w w'))
   case atStart=>exact ⟨(0),(0),(by first|rfl|(simp;done)|(simp [*];done)),H',⟨Nat.le_refl _⟩,⟨by (with_reducible repeat (first|apply Kd.R_alloc|apply Kd.R_drewN|apply Kd.R_drew));exact Kd.R_mono (Kd.R_far (p:=⟨gb247,4,none⟩) (Kd.R_far (p:=⟨gb247,3,none⟩) (Kd.R_far (p:=⟨gb247,2,none⟩) (Kd.R_far (p:=⟨gb247,1,none⟩) (Kd.R_far (p:=⟨gb247,0,none⟩) (Kd.R_types HO243.out BK247.out (by decide)) (fun _ hk=>hk.2) (.int .i64 (t241.length : Int))) (fun _ hk=>hk.2) (.int .i64 a0_1)) (fun _ hk=>hk.2) (.slice Ao24 t244.length co24)) (fun _ hk=>hk.2) (.int .i64 0)) (fun _ hk=>hk.2) (.int .u32 0)) (fun _ hk=>trivial)⟩,⟨by (with_reducible repeat (first|apply Kd.S_alloc|apply Kd.S_drewN|apply Kd.S_drew));exact Kd.S_mono (Kd.S_far (p:=⟨gb247,4,none⟩) (Kd.S_far (p:=⟨gb247,3,none⟩) (Kd.S_far (p:=⟨gb247,2,none⟩) (Kd.S_far (p:=⟨gb247,1,none⟩) (Kd.S_far (p:=⟨gb247,0,none⟩) (Kd.S_types HO246.out BK247.out (by decide)) (fun _ hk=>hk.2) (.int .i64 (t241.length : Int))) (fun _ hk=>hk.2) (.int .i64 a0_1)) (fun _ hk=>hk.2) (.slice Ao24 t244.length co24)) (fun _ hk=>hk.2) (.int .i64 0)) (fun _ hk=>hk.2) (.int .u32 0)) (fun _ hk=>trivial)⟩,⟨by (with_reducible repeat (first|refine blk_drewN ?_ _|refine blk_drew ?_|refine blk_alloc ?_ _));refine blk_far ?_ NB238_247.out _;(with_reducible repeat (first|refine blk_drewN ?_ _|refine blk_drew ?_|refine blk_alloc ?_ _));refine blk_far ?_ NB238_247.out _;(with_reducible repeat (first|refine blk_drewN ?_ _|refine blk_drew ?_|refine blk_alloc ?_ _));refine blk_far ?_ NB238_247.out _;(with_reducible repeat (first|refine blk_drewN ?_ _|refine blk_drew ?_|refine blk_alloc ?_ _));refine blk_far ?_ NB238_247.out _;(with_reducible repeat (first|refine blk_drewN ?_ _|refine blk_drew ?_|refine blk_alloc ?_ _));refine blk_far ?_ NB238_247.out _;(with_reducible repeat (first|refine blk_drewN ?_ _|refine blk_drew ?_|refine blk_alloc ?_ _));exact BK238.out⟩,⟨by (with_reducible repeat (first|refine blk_drewN ?_ _|refine blk_drew ?_|refine blk_alloc ?_ _));refine blk_far ?_ NB239_247.out _;(with_reducible repeat (first|refine blk_drewN ?_ _|refine blk_drew ?_|refine blk_alloc ?_ _));refine blk_far ?_ NB239_247.out _;(with_reducible repeat (first|refine blk_drewN ?_ _|refine blk_drew ?_|refine blk_alloc ?_ _));refine blk_far ?_ NB239_247.out _;(with_reducible repeat (first|refine blk_drewN ?_ _|refine blk_drew ?_|refine blk_alloc ?_ _));refine blk_far ?_ NB239_247.out _;(with_reducible repeat (first|refine blk_drewN ?_ _|refine blk_drew ?_|refine blk_alloc ?_ _));refine blk_far ?_ NB239_247.out _;(with_reducible repeat (first|refine blk_drewN ?_ _|refine blk_drew ?_|refine blk_alloc ?_ _));exact BK239.out⟩,⟨by (with_reducible repeat (first|refine blk_drewN ?_ _|refine blk_drew ?_|refine blk_alloc ?_ _));refine blk_put (cs:=#[.int .i64 (t241.length : Int),.int .i64 a0_1,.slice Ao24 t244.length co24,.int .i64 0,.int .u32 0]) ?_ 4 _ rfl;(with_reducible repeat (first|refine blk_drewN ?_ _|refine blk_drew ?_|refine blk_alloc ?_ _));refine blk_put (cs:=#[.int .i64 (t241.length : Int),.int .i64 a0_1,.slice Ao24 t244.length co24,.int .i64 0,.int .u32 0]) ?_ 3 _ rfl;(with_reducible repeat (first|refine blk_drewN ?_ _|refine blk_drew ?_|refine blk_alloc ?_ _));refine blk_put (cs:=#[.int .i64 (t241.length : Int),.int .i64 a0_1,.slice none 0 0,.int .i64 0,.int .u32 0]) ?_ 2 _ rfl;(with_reducible repeat (first|refine blk_drewN ?_ _|refine blk_drew ?_|refine blk_alloc ?_ _));refine blk_put (cs:=#[.int .i64 (t241.length : Int),.int .i64 0,.slice none 0 0,.int .i64 0,.int .u32 0]) ?_ 1 _ rfl;(with_reducible repeat (first|refine blk_drewN ?_ _|refine blk_drew ?_|refine blk_alloc ?_ _));refine blk_put (cs:=#[.int .i64 0,.int .i64 0,.slice none 0 0,.int .i64 0,.int .u32 0]) ?_ 0 _ rfl;(with_reducible repeat (first|refine blk_drewN ?_ _|refine blk_drew ?_|refine blk_alloc ?_ _));exact BK247.out⟩,⟨by repeat (first|(with_reducible first|exact HB.out|apply below_alloc|apply pw_below_drewN|apply below_drew1|refine below_set ?_ GE238.out|refine below_set ?_ GE239.out|refine below_set ?_ GE247.out)|exact HB.out)⟩⟩
   case round =>
    clear H'
    try clear c1
    try clear c2
    try clear p2
    try clear c3
    try clear c3b0
    try clear c3b1
    try clear c5
    try clear c5b0
    try clear c5b1
    try clear c8
    try clear c12
    try clear c14
    try clear c17
    try clear c26
    try clear c27
    try clear hcz11_0
    try clear hcz11_1
    try clear hcz11_2
    try clear hcz11_3
    try clear hcz11_4
    try clear hcz14_0
    try clear hcz14_1
    try clear hcz14_2
    try clear hcz14_3
    try clear hcz14_4
    try clear hcz18_0
    try clear hcz18_1
    try clear hcz18_2
    try clear hcz18_3
    try clear hcz18_4
    try clear hcz20_0
    try clear hcz20_1
    try clear hcz20_2
    try clear hcz20_3
    try clear hcz20_4
    try clear hcz23_0
    try clear hcz23_1
    try clear hcz23_2
    try clear hcz23_3
    try clear hcz23_4
    try clear hcz28_0
    try clear hcz28_1
    try clear hcz28_2
    try clear hcz28_3
    try clear hcz28_4
    try clear hcz9_0
    try clear hcz9_1
    try clear hcz9_2
    try clear hcz9_3
    try clear hcz9_4
    try clear hfz11_0
    try clear hfz11_1
    try clear hfz11_2
    try clear hfz11_3
    try clear hfz11_4
    try clear hfz14_0
    try clear hfz14_1
    try clear hfz14_2
    try clear hfz14_3
    try clear hfz14_4
    try clear hfz18_0
    try clear hfz18_1
    try clear hfz18_2
    try clear hfz18_3
    try clear hfz18_4
    try clear hfz20_0
    try clear hfz20_1
    try clear hfz20_2
    try clear hfz20_3
    try clear hfz20_4
    try clear hfz23_0
    try clear hfz23_1
    try clear hfz23_2
    try clear hfz23_3
    try clear hfz23_4
    try clear hfz28_0
    try clear hfz28_1
    try clear hfz28_2
    try clear hfz28_3
    try clear hfz28_4
    try clear hfz9_0
    try clear hfz9_1
    try clear hfz9_2
    try clear hfz9_3
    try clear hfz9_4
    obtain ⟨x33_1,x248004_1,rfl,HA,HK1,HO_31,HO_248002,BK238,BK239,BK247,HB⟩:=hrel
    cases gk with
    | zero=>exact absurd HA.out (by simp [net_Sure.l0])
    | succ k1 =>
     have H:=HA.out
     clear HA
     simp only [net_Sure.l0] at H
     by_cases c29 : x33_1 < (t241.length : Int)
     ·rw [if_pos c29] at H
      have c29b0 : decide (x33_1 < (t241.length : Int)) = true:=decide_eq_true c29
      clear c29
      by_cases c30 : 0 ≤ x33_1
      ·rw [if_pos c30] at H
       have c30b0 : decide (0 ≤ x33_1) = true:=decide_eq_true c30
       clear c30
       by_cases c31 : x33_1 < (t241.length : Int)
       ·rw [if_pos c31] at H
        have c31b0 : decide (x33_1 < (t241.length : Int)) = true:=decide_eq_true c31
        clear c31
        by_cases c32 : (Go.bits .and .u32 (rd t241 x33_1) a0_4) = 0
        ·rw [if_pos c32] at H
         have c32b0 : ((Go.bits .and .u32 (rd t241 x33_1) a0_4) == 0) = true:=beq_iff_eq.mpr c32
         have c32b1 : ((Go.bits .and .u32 (rd t241 x33_1) a0_4) != 0) = false:=bne_eq_false_iff_eq.mpr c32
         clear c32
         have H':=Aside0.mk H
         clear H
         have p248 : 0 ≤ (x33_1 : Int):=of_decide_eq_true (by first|(with_reducible assumption)|assumption)
         have q248 : x33_1 < (t241.length : Int):=of_decide_eq_true (by first|(with_reducible assumption)|assumption)
         obtain ⟨ad248,e248,hx248_0⟩:=Kd.at_int (Kd.R_reads' HO_31.out).2.2 x33_1 p248 q248
         cases e248
         replace p248:=eq_true p248
         replace q248:=eq_true q248
         have hnb33:=NB238_239.out
         have hnc33:=NB239_238.out
         have hnb34:=NB238_247.out
         have hnc34:=NB247_238.out
         have hcz35_0 : wr.cell? ⟨gb238,0,none⟩ = some (.int .i64 a0_0):=(blk_cell BK238.out 0).trans rfl
         have hcz35_1 : wr.cell? ⟨gb238,1,none⟩ = some (.int .i64 a0_1):=(blk_cell BK238.out 1).trans rfl
         have hcz35_2 : wr.cell? ⟨gb238,2,none⟩ = some (.slice A0_2 l0_2.length c0_2):=(blk_cell BK238.out 2).trans rfl
         have hcz35_3 : wr.cell? ⟨gb238,3,none⟩ = some (.int .u32 a0_3):=(blk_cell BK238.out 3).trans rfl
         have hcz35_4 : wr.cell? ⟨gb238,4,none⟩ = some (.int .u32 a0_4):=(blk_cell BK238.out 4).trans rfl
         have hfz35_0:=blk_frozen BK238.out 0
         have hfz35_1:=blk_frozen BK238.out 1
         have hfz35_2:=blk_frozen BK238.out 2
         have hfz35_3:=blk_frozen BK238.out 3
         have hfz35_4:=blk_frozen BK238.out 4
         go_wp2
         go_roundg k1
         case measure=>have:=HK1.out;omega
         case rel=>exact ⟨(wrap64 (x33_1 + 1)),(x248004_1),(by first|rfl|(simp;done)|(simp [*];done)),H',⟨by have:=HK1.out;omega⟩,⟨by (with_reducible repeat (first|apply Kd.R_alloc|apply Kd.R_drewN|apply Kd.R_drew));exact HO_31.out⟩,⟨by (with_reducible repeat (first|apply Kd.S_alloc|apply Kd.S_drewN|apply Kd.S_drew));exact HO_248002.out⟩,⟨by (with_reducible repeat (first|refine blk_drewN ?_ _|refine blk_drew ?_|refine blk_alloc ?_ _));exact BK238.out⟩,⟨by (with_reducible repeat (first|refine blk_drewN ?_ _|refine blk_drew ?_|refine blk_alloc ?_ _));exact BK239.out⟩,⟨by (with_reducible repeat (first|refine blk_drewN ?_ _|refine blk_drew ?_|refine blk_alloc ?_ _));exact BK247.out⟩,⟨by repeat (first|(with_reducible first|exact HB.out|apply below_alloc|apply pw_below_drewN|apply below_drew1|refine below_set ?_ GE238.out|refine below_set ?_ GE239.out|refine below_set ?_ GE247.out)|exact HB.out)⟩⟩
        ·rw [if_neg c32] at H
         have c32b0 : ((Go.bits .and .u32 (rd t241 x33_1) a0_4) == 0) = false:=beq_eq_false_iff_ne.mpr c32
         have c32b1 : ((Go.bits .and .u32 (rd t241 x33_1) a0_4) != 0) = true:=bne_iff_ne.mpr c32
         have c36b0:=eq_true (of_decide_eq_true (by first|(with_reducible assumption)|assumption) : 0 ≤ x33_1)
         obtain ⟨ji37,hji37⟩ : ∃ j_ : Int,(shl .u32 1 x33_1) = j_:=⟨_,rfl⟩
         replace H : (net_Sure.l0 k1 t241 (t241.length : Int) (wrap64 (x33_1 + 1)) a0_0 a0_1 l0_2 a0_3 a0_4 (t241.length : Int) a0_1 t244 0 (Go.bits .or .u32 x248004_1 (ji37))) = some (r1,r2,r3,r4,r5,r6):=by first|(rw [hji37] at H;exact H)|(simp only [hji37] at H ⊢;exact H)
         have hji37_ : (IntKind.u32.wrap (1 * 2 ^ min x33_1.toNat 32)) = ji37:=hji37
         have hji37z : x33_1 ≤ 32 → (IntKind.u32.wrap (1 * 2 ^ x33_1.toNat)) = ji37:=shl_small hji37
         have hji37u : (IntKind.u32.wrap (2 ^ min x33_1.toNat 32)) = ji37:=by have h_:=hji37_;rw [Int.one_mul] at h_;exact h_
         have hji37v : x33_1 ≤ 32 → (IntKind.u32.wrap (2 ^ x33_1.toNat)) = ji37:=fun hle_=>by have h_:=hji37z hle_;rw [Int.one_mul] at h_;exact h_
         have H':=Aside0.mk H
         clear H
         have p248 : 0 ≤ (x33_1 : Int):=of_decide_eq_true (by first|(with_reducible assumption)|assumption)
         have q248 : x33_1 < (t241.length : Int):=of_decide_eq_true (by first|(with_reducible assumption)|assumption)
         obtain ⟨ad248,e248,hx248_0⟩:=Kd.at_int (Kd.R_reads' HO_31.out).2.2 x33_1 p248 q248
         cases e248
         replace p248:=eq_true p248
         replace q248:=eq_true q248
         have hnb38:=NB238_239.out
         have hnc38:=NB239_238.out
         have hnb39:=NB238_247.out
         have hnc39:=NB247_238.out
         have hcz40_0 : wr.cell? ⟨gb238,0,none⟩ = some (.int .i64 a0_0):=(blk_cell BK238.out 0).trans rfl
         have hcz40_1 : wr.cell? ⟨gb238,1,none⟩ = some (.int .i64 a0_1):=(blk_cell BK238.out 1).trans rfl
         have hcz40_2 : wr.cell? ⟨gb238,2,none⟩ = some (.slice A0_2 l0_2.length c0_2):=(blk_cell BK238.out 2).trans rfl
         have hcz40_3 : wr.cell? ⟨gb238,3,none⟩ = some (.int .u32 a0_3):=(blk_cell BK238.out 3).trans rfl
         have hcz40_4 : wr.cell? ⟨gb238,4,none⟩ = some (.int .u32 a0_4):=(blk_cell BK238.out 4).trans rfl
         have hfz40_0:=blk_frozen BK238.out 0
         have hfz40_1:=blk_frozen BK238.out 1
         have hfz40_2:=blk_frozen BK238.out 2
         have hfz40_3:=blk_frozen BK238.out 3
         have hfz40_4:=blk_frozen BK238.out 4
         try go_wp2
         have n0_:=Aside0.mk (Kd.R_drew HO_31.out)
         have n1_:=Aside0.mk (Kd.S_drew HO_248002.out)
         have n2_:=Aside0.mk (blk_drew BK238.out)
         have n3_:=Aside0.mk (blk_drew BK239.out)
         have n4_:=Aside0.mk (blk_drew BK247.out)
         have n5_:=Aside0.mk (below_drew1 HB.out)
         clear HO_31
         clear HO_248002
         clear BK238
         clear BK239
         clear BK247
         clear HB
         have HO_31:=n0_
         have HO_248002:=n1_
         have BK238:=n2_
         have BK239:=n3_
         have BK247:=n4_
         have HB:=n5_
         clear n0_ n1_ n2_ n3_ n4_ n5_
         refine start_ (n:=7) (S:=fun w'=>w'.cell? ⟨gb247,0,none⟩ = some (.int .i64 (t241.length : Int)) ∧ w'.cell? ⟨gb247,1,none⟩ = some (.int .i64 a0_1) ∧ w'.cell? ⟨gb247,2,none⟩ = some (.slice Ao24 t244.length co24) ∧ w'.cell? ⟨gb247,3,none⟩ = some (.int .i64 0) ∧ w'.cell? ⟨gb247,4,none⟩ = some (.int .u32 x248004_1)) (ds:=[6]) #[false,false,false,false,false,false,false] (by kernel_rfl) rfl rfl ⟨(blk_cell BK247.out 0).trans rfl,(blk_cell BK247.out 1).trans rfl,(blk_cell BK247.out 2).trans rfl,(blk_cell BK247.out 3).trans rfl,(blk_cell BK247.out 4).trans rfl⟩ (fun hHeld=>?_)
         generalize wr.drew = w41 at HO_31 HO_248002 BK238 BK239 BK247 HB hHeld ⊢
         refine pure_ (i:=0) (N:=some 43) (v:=?_) (a':=?_) #[true,false,false,false,false,false,false] rfl rfl (by kernel_rfl) (fun _ _ _ h=>h) (Or.inl ⟨by rfl,?_⟩) ?_ ?_
         rotate_left
         ·intro w'
          go_simp
          with_reducible rfl
         rotate_left
         ·simp only [Act.put,List.setIfInBounds_toArray,List.set_cons_zero,List.set_cons_succ,i64_w,i32_w]
          rfl
         refine pure_ (i:=2) (N:=some 45) (v:=?_) (a':=?_) #[true,false,true,false,false,false,false] rfl rfl (by kernel_rfl) (fun _ _ _ h=>h) (Or.inl ⟨by rfl,?_⟩) ?_ ?_
         rotate_left
         ·intro w'
          go_simp
          with_reducible rfl
         rotate_left
         ·simp only [Act.put,List.setIfInBounds_toArray,List.set_cons_zero,List.set_cons_succ,i64_w,i32_w]
          rfl
         refine pure_ (i:=3) (N:=some 46) (v:=?_) (a':=?_) #[true,false,true,true,false,false,false] rfl rfl (by kernel_rfl) (fun _ _ _ h=>h) (Or.inl ⟨by rfl,?_⟩) ?_ ?_
         rotate_left
         ·intro w'
          go_simp
          with_reducible rfl
         rotate_left
         ·simp only [Act.put,List.setIfInBounds_toArray,List.set_cons_zero,List.set_cons_succ,i64_w,i32_w]
          rfl
         refine take_ (i:=1) (N:=some 44) (v:=?_) (a':=?_) #[true,true,true,true,false,false,false] rfl rfl (by kernel_rfl) (fun _ _ _ h=>h) (Or.inl ⟨by rfl,?_⟩) hHeld ?_ ?_
         rotate_left
         ·rintro w' ⟨s0,s1,s2,s3,s4⟩
          go_simp
          with_reducible rfl
         rotate_left
         ·simp only [Act.put,List.setIfInBounds_toArray,List.set_cons_zero,List.set_cons_succ,i64_w,i32_w]
          rfl
         refine pure_ (i:=4) (N:=some 47) (v:=?_) (a':=?_) #[true,true,true,true,true,false,false] rfl rfl (by kernel_rfl) (fun _ _ _ h=>h) (Or.inl ⟨by rfl,?_⟩) ?_ ?_
         rotate_left
         ·intro w'
          go_simp
          with_reducible rfl
         rotate_left
         ·simp only [Act.put,List.setIfInBounds_toArray,List.set_cons_zero,List.set_cons_succ,i64_w,i32_w]
          rfl
         refine pure_ (i:=5) (N:=some 48) (v:=?_) (a':=?_) #[true,true,true,true,true,true,false] rfl rfl (by kernel_rfl) (fun _ _ _ h=>h) (Or.inl ⟨by rfl,?_⟩) ?_ ?_
         rotate_left
         ·intro w'
          go_simp
          with_reducible rfl
         rotate_left
         ·simp only [Act.put,List.setIfInBounds_toArray,List.set_cons_zero,List.set_cons_succ,i64_w,i32_w]
          rfl
         refine last_ (i:=6) (N:=none) #[true,true,true,true,true,true,true] rfl rfl (by kernel_rfl) (by decide) (fun K hK=>?_)
         have hs42 : w41.cell? ⟨gb247,4,none⟩ = some (.int .u32 x248004_1):=(blk_cell BK247.out 4).trans rfl
         have hfs42:=blk_frozen BK247.out 4
         have hns42_0:=NB238_247.out
         have hns42_1:=NB239_247.out
         have hms42_0:=NB247_238.out
         have hms42_1:=NB247_239.out
         refine skip_ (w1:=?_) (by rfl) rfl ?_ ?_
         rotate_left
         ·go_simp
          rfl
         refine hK.out _ _ ?_
         clear hK K
         refine done_ (by kernel_rfl) ?_
         try go_wp2
         first|go_roundg k1|((simp only [← hji37]);go_roundg k1)
         case measure=>have:=HK1.out;omega
         case rel=>exact ⟨(wrap64 (x33_1 + 1)),(Go.bits .or .u32 x248004_1 (ji37)),(by first|rfl|(simp;done)|(simp [*];done)),(by first|exact H'|((simp only [hji37]);exact H')|(have h_:=H'.out;simp only [← hji37] at h_ ⊢;exact ⟨h_⟩)),⟨by have:=HK1.out;omega⟩,⟨by (with_reducible repeat (first|apply Kd.R_alloc|apply Kd.R_drewN|apply Kd.R_drew));exact Kd.R_mono (Kd.R_far (p:=⟨gb247,4,none⟩) (Kd.R_types HO_31.out BK247.out (by decide)) (fun _ hk=>hk.2) (.int .u32 (Go.bits .or .u32 x248004_1 (ji37)))) (fun _ hk=>trivial)⟩,⟨by (with_reducible repeat (first|apply Kd.S_alloc|apply Kd.S_drewN|apply Kd.S_drew));exact Kd.S_mono (Kd.S_far (p:=⟨gb247,4,none⟩) (Kd.S_types HO_248002.out BK247.out (by decide)) (fun _ hk=>hk.2) (.int .u32 (Go.bits .or .u32 x248004_1 (ji37)))) (fun _ hk=>trivial)⟩,⟨by (with_reducible repeat (first|refine blk_drewN ?_ _|refine blk_drew ?_|refine blk_alloc ?_ _));refine blk_far ?_ NB238_247.out _;(with_reducible repeat (first|refine blk_drewN ?_ _|refine blk_drew ?_|refine blk_alloc ?_ _));exact BK238.out⟩,⟨by (with_reducible repeat (first|refine blk_drewN ?_ _|refine blk_drew ?_|refine blk_alloc ?_ _));refine blk_far ?_ NB239_247.out _;(with_reducible repeat (first|refine blk_drewN ?_ _|refine blk_drew ?_|refine blk_alloc ?_ _));exact BK239.out⟩,⟨by (with_reducible repeat (first|refine blk_drewN ?_ _|refine blk_drew ?_|refine blk_alloc ?_ _));refine blk_put (cs:=#[.int .i64 (t241.length : Int),.int .i64 a0_1,.slice Ao24 t244.length co24,.int .i64 0,.int .u32 x248004_1]) ?_ 4 _ rfl;(with_reducible repeat (first|refine blk_drewN ?_ _|refine blk_drew ?_|refine blk_alloc ?_ _));exact BK247.out⟩,⟨by repeat (first|(with_reducible first|exact HB.out|apply below_alloc|apply pw_below_drewN|apply below_drew1|refine below_set ?_ GE238.out|refine below_set ?_ GE239.out|refine below_set ?_ GE247.out)|exact HB.out)⟩⟩
       ·rw [if_neg c31] at H
        exact absurd H (by simp)
      ·rw [if_neg c30] at H
       exact absurd H (by simp)
     ·rw [if_neg c29] at H
      have c29b0 : decide (x33_1 < (t241.length : Int)) = false:=decide_eq_false c29
      clear c29
      simp only [Option.some.injEq,Prod.mk.injEq] at H
      obtain ⟨rfl,rfl,rfl,rfl,rfl,rfl⟩:=H
      have hnb43:=NB247_238.out
      have hnc43:=NB238_247.out
      have hnb44:=NB247_239.out
      have hnc44:=NB239_247.out
      have hcz45_0 : wr.cell? ⟨gb247,0,none⟩ = some (.int .i64 (t241.length : Int)):=(blk_cell BK247.out 0).trans rfl
      have hcz45_1 : wr.cell? ⟨gb247,1,none⟩ = some (.int .i64 a0_1):=(blk_cell BK247.out 1).trans rfl
      have hcz45_2 : wr.cell? ⟨gb247,2,none⟩ = some (.slice Ao24 t244.length co24):=(blk_cell BK247.out 2).trans rfl
      have hcz45_3 : wr.cell? ⟨gb247,3,none⟩ = some (.int .i64 0):=(blk_cell BK247.out 3).trans rfl
      have hcz45_4 : wr.cell? ⟨gb247,4,none⟩ = some (.int .u32 x248004_1):=(blk_cell BK247.out 4).trans rfl
      have hfz45_0:=blk_frozen BK247.out 0
      have hfz45_1:=blk_frozen BK247.out 1
      have hfz45_2:=blk_frozen BK247.out 2
      have hfz45_3:=blk_frozen BK247.out 3
      have hfz45_4:=blk_frozen BK247.out 4
      have hnb46:=NB239_238.out
      have hnc46:=NB238_239.out
      have hcz47_0 : wr.cell? ⟨gb239,0,none⟩ = some (.int .i64 0):=(blk_cell BK239.out 0).trans rfl
      have hcz47_1 : wr.cell? ⟨gb239,1,none⟩ = some (.int .i64 0):=(blk_cell BK239.out 1).trans rfl
      have hcz47_2 : wr.cell? ⟨gb239,2,none⟩ = some (.slice none 0 0):=(blk_cell BK239.out 2).trans rfl
      have hcz47_3 : wr.cell? ⟨gb239,3,none⟩ = some (.int .i64 0):=(blk_cell BK239.out 3).trans rfl
      have hcz47_4 : wr.cell? ⟨gb239,4,none⟩ = some (.int .u32 0):=(blk_cell BK239.out 4).trans rfl
      have hfz47_0:=blk_frozen BK239.out 0
      have hfz47_1:=blk_frozen BK239.out 1
      have hfz47_2:=blk_frozen BK239.out 2
      have hfz47_3:=blk_frozen BK239.out 3
      have hfz47_4:=blk_frozen BK239.out 4
      go_wp2
      refine bodyPost_ret (results_ct rfl _ _ gb239 25 #[.int .i64 (t241.length : Int),.int .i64 a0_1,.slice Ao24 t244.length co24,.int .i64 0,.int .u32 x248004_1] (0,0) _ rfl (by (with_reducible repeat (first|refine blk_drewN ?_ _|refine blk_drew ?_|refine blk_alloc ?_ _));refine blk_put (cs:=#[.int .i64 (t241.length : Int),.int .i64 a0_1,.slice Ao24 t244.length co24,.int .i64 0,.int .u32 0]) ?_ 4 _ rfl;(with_reducible repeat (first|refine blk_drewN ?_ _|refine blk_drew ?_|refine blk_alloc ?_ _));refine blk_put (cs:=#[.int .i64 (t241.length : Int),.int .i64 a0_1,.slice Ao24 t244.length co24,.int .i64 0,.int .u32 0]) ?_ 3 _ rfl;(with_reducible repeat (first|refine blk_drewN ?_ _|refine blk_drew ?_|refine blk_alloc ?_ _));refine blk_put (cs:=#[.int .i64 (t241.length : Int),.int .i64 a0_1,.slice none 0 0,.int .i64 0,.int .u32 0]) ?_ 2 _ rfl;(with_reducible repeat (first|refine blk_drewN ?_ _|refine blk_drew ?_|refine blk_alloc ?_ _));refine blk_put (cs:=#[.int .i64 (t241.length : Int),.int .i64 0,.slice none 0 0,.int .i64 0,.int .u32 0]) ?_ 1 _ rfl;(with_reducible repeat (first|refine blk_drewN ?_ _|refine blk_drew ?_|refine blk_alloc ?_ _));refine blk_put (cs:=#[.int .i64 0,.int .i64 0,.slice none 0 0,.int .i64 0,.int .u32 0]) ?_ 0 _ rfl;(with_reducible repeat (first|refine blk_drewN ?_ _|refine blk_drew ?_|refine blk_alloc ?_ _));exact BK239.out) Try.underlying25 rfl (by kernel_rfl)) rfl ?_
      exact ⟨_,by first|rfl|(simp [errW_none,errW_some] <;> rfl)|(simp [*,errW_none,errW_some] <;> rfl),by (with_reducible repeat (first|apply Kd.S_alloc|apply Kd.S_drewN|apply Kd.S_drew));exact Kd.S_mono (Kd.S_far (p:=⟨gb239,4,none⟩) (Kd.S_far (p:=⟨gb239,3,none⟩) (Kd.S_far (p:=⟨gb239,2,none⟩) (Kd.S_far (p:=⟨gb239,1,none⟩) (Kd.S_far (p:=⟨gb239,0,none⟩) (Kd.S_types HO_248002.out BK239.out (by decide)) (fun _ hk=>hk.2) (.int .i64 (t241.length : Int))) (fun _ hk=>hk.2) (.int .i64 a0_1)) (fun _ hk=>hk.2) (.slice Ao24 t244.length co24)) (fun _ hk=>hk.2) (.int .i64 0)) (fun _ hk=>hk.2) (.int .u32 x248004_1)) (fun _ hk=>trivial),by repeat (first|(with_reducible first|exact HB.out|apply below_alloc|apply pw_below_drewN|apply below_drew1|refine below_set ?_ GE238.out|refine below_set ?_ GE239.out|refine below_set ?_ GE247.out)|exact HB.out)⟩
 ·rw [if_neg c3] at H
  have c3b0 : (t240 == 0) = false:=beq_eq_false_iff_ne.mpr c3
  have c3b1 : (t240 != 0) = true:=bne_iff_ne.mpr c3
  simp only [Option.some.injEq,Prod.mk.injEq] at H
  obtain ⟨rfl,rfl,rfl,rfl,rfl,rfl⟩:=H
  go_enter Try.func8,Try.ntmps8
  go_wp2_with (first|((with_reducible refine gate_dst (N:=1) rfl ?_);refine box_event ?hg (N:=1) ?hd (cs:=#[.int .i64 a0_0,.int .i64 a0_1,.slice A0_2 l0_2.length c0_2,.int .u32 a0_3,.int .u32 a0_4]) (t:=32) ?hr ?_;(case hd=>rfl);(case hg=>rfl);(case hr=>first|(go_simp;done)|(go_simp;rfl));intro gb238 hg w48 hbox hb;have n0_:=Aside0.mk (below_step (by repeat (first|(with_reducible first|exact HB.out|apply below_alloc|apply pw_below_drewN|apply below_drew1)|exact HB.out)) hb);have n1_:=Aside0.mk (hbox);have n2_:=Aside0.mk ((by rw [hg];exact (below_size (by repeat (first|(with_reducible first|exact HB.out|apply below_alloc|apply pw_below_drewN|apply below_drew1)|exact HB.out))) : w.heap.size ≤ gb238));have n3_:=Aside0.mk ((by rw [hg];exact (below_size (by repeat (first|(with_reducible first|exact HB.out|apply below_alloc|apply pw_below_drewN|apply below_drew1)|exact HB.out))) : w.heap.size ≤ gb238));clear HB;have HB:=n0_;have BK238:=n1_;have GW238:=n2_;have GE238:=n3_;clear n0_ n1_ n2_ n3_;clear hb hbox hg)|((with_reducible refine gate_dst (N:=2) rfl ?_);refine box_event ?hg (N:=2) ?hd (cs:=#[.int .i64 0,.int .i64 0,.slice none 0 0,.int .i64 0,.int .u32 0]) (t:=25) ?hr ?_;(case hd=>rfl);(case hg=>rfl);(case hr=>first|(go_simp;done)|(go_simp;rfl));intro gb239 hg w49 hbox hb;have n0_:=Aside0.mk (blk_below (g:=gb238) (o:=.cells #[.int .i64 a0_0,.int .i64 a0_1,.slice A0_2 l0_2.length c0_2,.int .u32 a0_3,.int .u32 a0_4] 32 (0,0)) (by (with_reducible repeat (first|refine blk_drewN ?_ _|refine blk_drew ?_|refine blk_alloc ?_ _));exact BK238.out) hb);have n1_:=Aside0.mk (below_step (by repeat (first|(with_reducible first|exact HB.out|apply below_alloc|apply pw_below_drewN|apply below_drew1|refine below_set ?_ GE238.out)|exact HB.out)) hb);have n2_:=Aside0.mk (hbox);have n3_:=Aside0.mk ((by rw [hg];exact (below_size (by repeat (first|(with_reducible first|exact HB.out|apply below_alloc|apply pw_below_drewN|apply below_drew1|refine below_set ?_ GE238.out)|exact HB.out))) : w.heap.size ≤ gb239));have n4_:=Aside0.mk ((by rw [hg];exact (below_size (by repeat (first|(with_reducible first|exact HB.out|apply below_alloc|apply pw_below_drewN|apply below_drew1|refine below_set ?_ GE238.out)|exact HB.out))) : w.heap.size ≤ gb239));have n5_:=Aside0.mk ((by rw [hg];exact Nat.ne_of_lt (blk_lt (g:=gb238) (o:=.cells #[.int .i64 a0_0,.int .i64 a0_1,.slice A0_2 l0_2.length c0_2,.int .u32 a0_3,.int .u32 a0_4] 32 (0,0)) (by (with_reducible repeat (first|refine blk_drewN ?_ _|refine blk_drew ?_|refine blk_alloc ?_ _));exact BK238.out)) : gb238 ≠ gb239));have n6_:=Aside0.mk ((by rw [hg];exact Nat.ne_of_gt (blk_lt (g:=gb238) (o:=.cells #[.int .i64 a0_0,.int .i64 a0_1,.slice A0_2 l0_2.length c0_2,.int .u32 a0_3,.int .u32 a0_4] 32 (0,0)) (by (with_reducible repeat (first|refine blk_drewN ?_ _|refine blk_drew ?_|refine blk_alloc ?_ _));exact BK238.out)) : gb239 ≠ gb238));clear BK238;clear HB;have BK238:=n0_;have HB:=n1_;have BK239:=n2_;have GW239:=n3_;have GE239:=n4_;have NB238_239:=n5_;have NB239_238:=n6_;clear n0_ n1_ n2_ n3_ n4_ n5_ n6_;clear hb hbox hg;have hnb50:=NB238_239.out;have hnc50:=NB239_238.out;have hcz51_0 : w49.cell? ⟨gb238,0,none⟩ = some (.int .i64 a0_0):=(blk_cell BK238.out 0).trans rfl;have hcz51_1 : w49.cell? ⟨gb238,1,none⟩ = some (.int .i64 a0_1):=(blk_cell BK238.out 1).trans rfl;have hcz51_2 : w49.cell? ⟨gb238,2,none⟩ = some (.slice A0_2 l0_2.length c0_2):=(blk_cell BK238.out 2).trans rfl;have hcz51_3 : w49.cell? ⟨gb238,3,none⟩ = some (.int .u32 a0_3):=(blk_cell BK238.out 3).trans rfl;have hcz51_4 : w49.cell? ⟨gb238,4,none⟩ = some (.int .u32 a0_4):=(blk_cell BK238.out 4).trans rfl;have hfz51_0:=blk_frozen BK238.out 0;have hfz51_1:=blk_frozen BK238.out 1;have hfz51_2:=blk_frozen BK238.out 2;have hfz51_3:=blk_frozen BK238.out 3;have hfz51_4:=blk_frozen BK238.out 4)|((with_reducible refine gate_callee (f:=12) rfl ?_);refine goesL_ (some 11) rfl rfl Try.func12 (by kernel_rfl) rfl #[.agg #[.int .i64 a0_0,.int .i64 a0_1,.slice A0_2 l0_2.length c0_2,.int .u32 a0_3,.int .u32 a0_4]] rfl (by (try simp only [List.map_toArray,List.map_cons,List.map_nil]);first|done|rfl|(simp only [List.length_drop,List.length_take];rfl)) ?_;(with_reducible refine (net_Check.calls k a0_0 a0_1 _ _ l0_2 a0_3 a0_4 t240 _ ?side1 ?side2 A2.out).mono ?_);(case side1=>repeat (first|exact (Kd.C_below HR0_2.out HB.out)|(with_reducible refine Kd.C_alloc ?_ _)|(with_reducible refine Kd.C_drewN ?_ _)|(with_reducible refine Kd.C_drew ?_)));(case side2=>exact HC0_2.out);rintro e w52 ⟨rfl,hb⟩;refine ⟨_,rfl,?_⟩;have n0_:=Aside0.mk (blk_below (g:=gb238) (o:=.cells #[.int .i64 a0_0,.int .i64 a0_1,.slice A0_2 l0_2.length c0_2,.int .u32 a0_3,.int .u32 a0_4] 32 (0,0)) (by (with_reducible repeat (first|refine blk_drewN ?_ _|refine blk_drew ?_|refine blk_alloc ?_ _));exact BK238.out) hb);have n1_:=Aside0.mk (blk_below (g:=gb239) (o:=.cells #[.int .i64 0,.int .i64 0,.slice none 0 0,.int .i64 0,.int .u32 0] 25 (0,0)) (by (with_reducible repeat (first|refine blk_drewN ?_ _|refine blk_drew ?_|refine blk_alloc ?_ _));exact BK239.out) hb);have n2_:=Aside0.mk (below_step (by repeat (first|(with_reducible first|exact HB.out|apply below_alloc|apply pw_below_drewN|apply below_drew1|refine below_set ?_ GE238.out|refine below_set ?_ GE239.out)|exact HB.out)) hb);clear BK238;clear BK239;clear HB;have BK238:=n0_;have BK239:=n1_;have HB:=n2_;clear n0_ n1_ n2_;(try clear hb);(try clear hb2);(try clear hk);(try clear hi);have hcz53_0 : w52.cell? ⟨gb239,0,none⟩ = some (.int .i64 0):=(blk_cell BK239.out 0).trans rfl;have hcz53_1 : w52.cell? ⟨gb239,1,none⟩ = some (.int .i64 0):=(blk_cell BK239.out 1).trans rfl;have hcz53_2 : w52.cell? ⟨gb239,2,none⟩ = some (.slice none 0 0):=(blk_cell BK239.out 2).trans rfl;have hcz53_3 : w52.cell? ⟨gb239,3,none⟩ = some (.int .i64 0):=(blk_cell BK239.out 3).trans rfl;have hcz53_4 : w52.cell? ⟨gb239,4,none⟩ = some (.int .u32 0):=(blk_cell BK239.out 4).trans rfl;have hfz53_0:=blk_frozen BK239.out 0;have hfz53_1:=blk_frozen BK239.out 1;have hfz53_2:=blk_frozen BK239.out 2;have hfz53_3:=blk_frozen BK239.out 3;have hfz53_4:=blk_frozen BK239.out 4))
  refine bodyPost_ret (results_ct rfl _ _ gb239 25 #[.int .i64 0,.int .i64 0,.slice none 0 0,.int .i64 0,.int .u32 0] (0,0) _ rfl (by (with_reducible repeat (first|refine blk_drewN ?_ _|refine blk_drew ?_|refine blk_alloc ?_ _));refine blk_put (cs:=#[.int .i64 0,.int .i64 0,.slice none 0 0,.int .i64 0,.int .u32 0]) ?_ 4 _ rfl;(with_reducible repeat (first|refine blk_drewN ?_ _|refine blk_drew ?_|refine blk_alloc ?_ _));refine blk_put (cs:=#[.int .i64 0,.int .i64 0,.slice none 0 0,.int .i64 0,.int .u32 0]) ?_ 3 _ rfl;(with_reducible repeat (first|refine blk_drewN ?_ _|refine blk_drew ?_|refine blk_alloc ?_ _));refine blk_put (cs:=#[.int .i64 0,.int .i64 0,.slice none 0 0,.int .i64 0,.int .u32 0]) ?_ 2 _ rfl;(with_reducible repeat (first|refine blk_drewN ?_ _|refine blk_drew ?_|refine blk_alloc ?_ _));refine blk_put (cs:=#[.int .i64 0,.int .i64 0,.slice none 0 0,.int .i64 0,.int .u32 0]) ?_ 1 _ rfl;(with_reducible repeat (first|refine blk_drewN ?_ _|refine blk_drew ?_|refine blk_alloc ?_ _));refine blk_put (cs:=#[.int .i64 0,.int .i64 0,.slice none 0 0,.int .i64 0,.int .u32 0]) ?_ 0 _ rfl;(with_reducible repeat (first|refine blk_drewN ?_ _|refine blk_drew ?_|refine blk_alloc ?_ _));exact BK239.out) Try.underlying25 rfl (by kernel_rfl)) rfl ?_
  exact ⟨_,by first|rfl|(simp [errW_none,errW_some] <;> rfl)|(simp [*,errW_none,errW_some] <;> rfl),by first|exact Kd.S_nil _ _ _ _ _|exact Kd.N_nil _ _ _ _ _|exact Kd.V_nil _ _ _ _ _|exact Kd.Q_nil _ _ _ _ _|exact Kd.R_nil _ _ _ _ _,by repeat (first|(with_reducible first|exact HB.out|apply below_alloc|apply pw_below_drewN|apply below_drew1|refine below_set ?_ GE238.out|refine below_set ?_ GE239.out)|exact HB.out)⟩
end Go.Proofs.Ytllnipefceonmaa.GA
