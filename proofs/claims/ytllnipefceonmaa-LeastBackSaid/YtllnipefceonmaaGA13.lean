-- Written by ext.py, a program of this session.
import Derived.Test.YtllnipefceonmaaGA0
import Derived.Test.YtllnipefceonmaaGA11
import Derived.Test.YtllnipefceonmaaGA12
namespace Go.Proofs.Ytllnipefceonmaa.GA
open Go.RowKit Go.Proofs.YtllnipefceonmaaW.PrintWords Go.Proofs.YtllnipefceonmaaW.PrintLast Go.Proofs.YtllnipefceonmaaW.PrintMore
attribute [local go_sem] max2_int min2_int max_two min_two max_three min_three max_four min_four cellIs_set   -- for this text's walks alone
set_option linter.unusedVariables false
set_option linter.unusedSimpArgs false
/-! ### net_Back: function 6 -/
def net_Back.l0 : Nat → List (S45) → Int → Int → Int → Int → List (S45) → Int → Int → Option (Int × Int × (List (S45)) × Int × Int × Int)
 | 0,_,_,_,_,_,_,_,_=>none
 | k + 1,x18,x19,x20,x125000,x125001,x125002,x125003,x125004=>if x20 < x19 then (if 0 ≤ x20 then (if x20 < (x18.length : Int) then (if x20 < (x125002.length : Int) then ((some (x125002.set (x20 : Int).toNat (⟨(rd_T45 x18 x20).f2,(rd_T45 x125002 x20).f1,(rd_T45 x125002 x20).f2⟩ : S45) : List (S45))).bind fun y132=>(net_Back.l0 k (y132.set (x20 : Int).toNat (⟨(rd_T45 y132 x20).f0,(rd_T45 y132 x20).f1,(rd_T45 x18 x20).f0⟩ : S45)) x19 (wrap64 (x20 + 1)) x125000 x125001 (y132.set (x20 : Int).toNat (⟨(rd_T45 y132 x20).f0,(rd_T45 y132 x20).f1,(rd_T45 x18 x20).f0⟩ : S45)) x125003 x125004)) else (none)) else (none)) else (none)) else (some (x125000,x125001,x125002,x125004,x125003,0))
def net_Back.f (k : Nat) (a0_0 : Int) (a0_1 : Int) (l0_2 : List (S45)) (a0_3 : Int) (a0_4 : Int) : Option (Int × Int × (List (S45)) × Int × Int × Int):=(net_Check.f k a0_0 a0_1 l0_2 a0_3 a0_4).bind fun t126=>(if t126 = 0 then ((api_Arc.f l0_2).bind fun t127=>(net_Back.l0 k t127 (t127.length : Int) 0 a0_0 a0_1 t127 a0_3 a0_4)) else (some (0,0,([] : List (S45)),0,0,t126)))
theorem net_Back.mono_l : ∀ k,(∀ y0 y1 y2 y3 y4 y5 y6 y7,LeO (net_Back.l0 k y0 y1 y2 y3 y4 y5 y6 y7) (net_Back.l0 (k + 1) y0 y1 y2 y3 y4 y5 y6 y7))
 | 0=>fun _ _ _ _ _ _ _ _ r h=>by simp [net_Back.l0] at h
 | k + 1=>by
  have ih0:=net_Back.mono_l k
  ·intro y0 y1 y2 y3 y4 y5 y6 y7
   unfold net_Back.l0
   repeat' first
   | (with_reducible exact ih0 _ _ _ _ _ _ _ _)
   | (with_reducible exact net_Check.mono _ _ _ _ _ _)
   | (with_reducible exact LeO.refl _)
   | (with_reducible exact LeO.none _)
   | (with_reducible refine LeO.ite ?_ ?_)
   | (with_reducible refine LeO.bind ?_ (fun _=>?_))
   | exact ih0 _ _ _ _ _ _ _ _
   | exact net_Check.mono _ _ _ _ _ _
   | exact LeO.none _
   | refine LeO.ite ?_ ?_
   | refine LeO.bind ?_ (fun _=>?_)
theorem net_Back.mono : ∀ a0 a1 a2 a3 a4 k,LeO (net_Back.f k a0 a1 a2 a3 a4) (net_Back.f (k + 1) a0 a1 a2 a3 a4):=by
 intro a0 a1 a2 a3 a4 k
 have ih0:=net_Back.mono_l k
 unfold net_Back.f
 repeat' first
   | (with_reducible exact ih0 _ _ _ _ _ _ _ _)
   | (with_reducible exact net_Check.mono _ _ _ _ _ _)
   | (with_reducible exact LeO.refl _)
   | (with_reducible exact LeO.none _)
   | (with_reducible refine LeO.ite ?_ ?_)
   | (with_reducible refine LeO.bind ?_ (fun _=>?_))
   | exact ih0 _ _ _ _ _ _ _ _
   | exact net_Check.mono _ _ _ _ _ _
   | exact LeO.none _
   | refine LeO.ite ?_ ?_
   | refine LeO.bind ?_ (fun _=>?_)
def net_Back.T8 : Bool × List (List Nat × List Nat):=(true,[([],[]),([0],[0]),([],[]),([],[]),([3],[3]),([],[]),([],[]),([6],[6]),([],[]),([8],[8]),([1,2,0,1,2,6,7],[1,2]),([10,0,1,2,6,7],[10]),([11,7,0,1,2,6,7],[7,11]),([4,5,0,1,2,3,4,5,6,7,8,9,10,11,12],[4,5]),([13,0,1,2,3,4,5,6,7,8,9,10,11,12],[13]),([14,9,12,0,1,2,3,4,5,6,7,8,9,10,11,12],[9,14])])
def net_Back.B8 : List Nat:=[0,1,0,0,8,0,0,64,0,256,199,1223,3271,8191,16383,32767]
theorem net_Back.tab8 : rtab .any (opsOf Try.f6 8) = net_Back.T8:=by kernel_rfl
theorem net_Back.bits8 : waitsOk net_Back.T8.2 net_Back.B8 = true:=by kernel_rfl
set_option maxHeartbeats 8000000 in
set_option maxRecDepth 100000 in
theorem net_Back.calls (k : Nat) (a0_0 : Int) (a0_1 : Int) (A0_2 : Option Addr) (c0_2 : Nat) (l0_2 : List (S45)) (a0_3 : Int) (a0_4 : Int) (r1 : Int) (r2 : Int) (r3 : List (S45)) (r4 : Int) (r5 : Int) (r6 : Int) (w : World) (hr0_2 : Kd.C k45 w A0_2 l0_2.length l0_2) (hc0_2 : l0_2.length ≤ c0_2) (h : net_Back.f k a0_0 a0_1 l0_2 a0_3 a0_4 = some (r1,r2,r3,r4,r5,r6)) :
  Calls Try.prog 6 #[.agg #[.int .i64 a0_0,.int .i64 a0_1,.slice A0_2 l0_2.length c0_2,.int .u32 a0_3,.int .u32 a0_4]] w fun e w'=>∃ v2_ : Value,e = .returned (.tuple #[.agg #[.int .i64 r1,.int .i64 r2,v2_,.int .u32 r4,.int .u32 r5],.int .i64 r6]) ∧ Kd.R k45 45 w' w.heap.size (fun _=>True) v2_ r3 ∧ Below w.heap.size w w':=by
 have hu25:=Try.underlying32
 have hu27:=Try.underlying45
 have HR0_2:=Aside0.mk hr0_2
 have HC0_2:=Aside0.mk hc0_2
 clear hr0_2 hc0_2
 have HB:=Aside0.mk (Below.refl w.heap.size w)
 have H : ((net_Check.f k a0_0 a0_1 l0_2 a0_3 a0_4).bind fun t126=>(if t126 = 0 then ((api_Arc.f l0_2).bind fun t127=>(net_Back.l0 k t127 (t127.length : Int) 0 a0_0 a0_1 t127 a0_3 a0_4)) else (some (0,0,([] : List (S45)),0,0,t126)))) = some (r1,r2,r3,r4,r5,r6):=h
 clear h
 replace H:=Option.bind_eq_some_iff.mp H
 obtain ⟨t126,A20,H⟩:=H
 replace H : (if t126 = 0 then ((api_Arc.f l0_2).bind fun t127=>(net_Back.l0 k t127 (t127.length : Int) 0 a0_0 a0_1 t127 a0_3 a0_4)) else (some (0,0,([] : List (S45)),0,0,t126))) = some (r1,r2,r3,r4,r5,r6):=H
 have A2:=Aside0.mk A20
 clear A20
 by_cases c3 : t126 = 0
 ·rw [if_pos c3] at H
  have c3b0 : (t126 == 0) = true:=beq_iff_eq.mpr c3
  have c3b1 : (t126 != 0) = false:=bne_eq_false_iff_eq.mpr c3
  clear c3
  replace H:=Option.bind_eq_some_iff.mp H
  obtain ⟨t127,A40,H⟩:=H
  replace H : (net_Back.l0 k t127 (t127.length : Int) 0 a0_0 a0_1 t127 a0_3 a0_4) = some (r1,r2,r3,r4,r5,r6):=H
  have A4:=Aside0.mk A40
  clear A40
  have H':=Aside0.mk H
  clear H
  go_enter Try.func6,Try.ntmps6
  go_wp2_with (first|((with_reducible refine gate_dst (N:=1) rfl ?_);refine box_event ?hg (N:=1) ?hd (cs:=#[.int .i64 a0_0,.int .i64 a0_1,.slice A0_2 l0_2.length c0_2,.int .u32 a0_3,.int .u32 a0_4]) (t:=32) ?hr ?_;(case hd=>rfl);(case hg=>rfl);(case hr=>first|(go_simp;done)|(go_simp;rfl));intro gb124 hg w5 hbox hb;have n0_:=Aside0.mk (below_step (by repeat (first|(with_reducible first|exact HB.out|apply below_alloc|apply pw_below_drewN|apply below_drew1)|exact HB.out)) hb);have n1_:=Aside0.mk (hbox);have n2_:=Aside0.mk ((by rw [hg];exact (below_size (by repeat (first|(with_reducible first|exact HB.out|apply below_alloc|apply pw_below_drewN|apply below_drew1)|exact HB.out))) : w.heap.size ≤ gb124));have n3_:=Aside0.mk ((by rw [hg];exact (below_size (by repeat (first|(with_reducible first|exact HB.out|apply below_alloc|apply pw_below_drewN|apply below_drew1)|exact HB.out))) : w.heap.size ≤ gb124));clear HB;have HB:=n0_;have BK124:=n1_;have GW124:=n2_;have GE124:=n3_;clear n0_ n1_ n2_ n3_;clear hb hbox hg)|((with_reducible refine gate_dst (N:=2) rfl ?_);refine box_event ?hg (N:=2) ?hd (cs:=#[.int .i64 0,.int .i64 0,.slice none 0 0,.int .u32 0,.int .u32 0]) (t:=32) ?hr ?_;(case hd=>rfl);(case hg=>rfl);(case hr=>first|(go_simp;done)|(go_simp;rfl));intro gb125 hg w6 hbox hb;have n0_:=Aside0.mk (blk_below (g:=gb124) (o:=.cells #[.int .i64 a0_0,.int .i64 a0_1,.slice A0_2 l0_2.length c0_2,.int .u32 a0_3,.int .u32 a0_4] 32 (0,0)) (by (with_reducible repeat (first|refine blk_drewN ?_ _|refine blk_drew ?_|refine blk_alloc ?_ _));exact BK124.out) hb);have n1_:=Aside0.mk (below_step (by repeat (first|(with_reducible first|exact HB.out|apply below_alloc|apply pw_below_drewN|apply below_drew1|refine below_set ?_ GE124.out)|exact HB.out)) hb);have n2_:=Aside0.mk (hbox);have n3_:=Aside0.mk ((by rw [hg];exact (below_size (by repeat (first|(with_reducible first|exact HB.out|apply below_alloc|apply pw_below_drewN|apply below_drew1|refine below_set ?_ GE124.out)|exact HB.out))) : w.heap.size ≤ gb125));have n4_:=Aside0.mk ((by rw [hg];exact (below_size (by repeat (first|(with_reducible first|exact HB.out|apply below_alloc|apply pw_below_drewN|apply below_drew1|refine below_set ?_ GE124.out)|exact HB.out))) : w.heap.size ≤ gb125));have n5_:=Aside0.mk ((by rw [hg];exact Nat.ne_of_lt (blk_lt (g:=gb124) (o:=.cells #[.int .i64 a0_0,.int .i64 a0_1,.slice A0_2 l0_2.length c0_2,.int .u32 a0_3,.int .u32 a0_4] 32 (0,0)) (by (with_reducible repeat (first|refine blk_drewN ?_ _|refine blk_drew ?_|refine blk_alloc ?_ _));exact BK124.out)) : gb124 ≠ gb125));have n6_:=Aside0.mk ((by rw [hg];exact Nat.ne_of_gt (blk_lt (g:=gb124) (o:=.cells #[.int .i64 a0_0,.int .i64 a0_1,.slice A0_2 l0_2.length c0_2,.int .u32 a0_3,.int .u32 a0_4] 32 (0,0)) (by (with_reducible repeat (first|refine blk_drewN ?_ _|refine blk_drew ?_|refine blk_alloc ?_ _));exact BK124.out)) : gb125 ≠ gb124));clear BK124;clear HB;have BK124:=n0_;have HB:=n1_;have BK125:=n2_;have GW125:=n3_;have GE125:=n4_;have NB124_125:=n5_;have NB125_124:=n6_;clear n0_ n1_ n2_ n3_ n4_ n5_ n6_;clear hb hbox hg;have hnb7:=NB124_125.out;have hnc7:=NB125_124.out;have hcz8_0 : w6.cell? ⟨gb124,0,none⟩ = some (.int .i64 a0_0):=(blk_cell BK124.out 0).trans rfl;have hcz8_1 : w6.cell? ⟨gb124,1,none⟩ = some (.int .i64 a0_1):=(blk_cell BK124.out 1).trans rfl;have hcz8_2 : w6.cell? ⟨gb124,2,none⟩ = some (.slice A0_2 l0_2.length c0_2):=(blk_cell BK124.out 2).trans rfl;have hcz8_3 : w6.cell? ⟨gb124,3,none⟩ = some (.int .u32 a0_3):=(blk_cell BK124.out 3).trans rfl;have hcz8_4 : w6.cell? ⟨gb124,4,none⟩ = some (.int .u32 a0_4):=(blk_cell BK124.out 4).trans rfl;have hfz8_0:=blk_frozen BK124.out 0;have hfz8_1:=blk_frozen BK124.out 1;have hfz8_2:=blk_frozen BK124.out 2;have hfz8_3:=blk_frozen BK124.out 3;have hfz8_4:=blk_frozen BK124.out 4)|((with_reducible refine gate_callee (f:=12) rfl ?_);refine goesL_ (some 8) rfl rfl Try.func12 (by kernel_rfl) rfl #[.agg #[.int .i64 a0_0,.int .i64 a0_1,.slice A0_2 l0_2.length c0_2,.int .u32 a0_3,.int .u32 a0_4]] rfl (by (try simp only [List.map_toArray,List.map_cons,List.map_nil]);first|done|rfl|(simp only [List.length_drop,List.length_take];rfl)) ?_;(with_reducible refine (net_Check.calls k a0_0 a0_1 _ _ l0_2 a0_3 a0_4 t126 _ ?side1 ?side2 A2.out).mono ?_);(case side1=>repeat (first|exact (Kd.C_below HR0_2.out HB.out)|(with_reducible refine Kd.C_alloc ?_ _)|(with_reducible refine Kd.C_drewN ?_ _)|(with_reducible refine Kd.C_drew ?_)));(case side2=>exact HC0_2.out);rintro e w9 ⟨rfl,hb⟩;refine ⟨_,rfl,?_⟩;have n0_:=Aside0.mk (blk_below (g:=gb124) (o:=.cells #[.int .i64 a0_0,.int .i64 a0_1,.slice A0_2 l0_2.length c0_2,.int .u32 a0_3,.int .u32 a0_4] 32 (0,0)) (by (with_reducible repeat (first|refine blk_drewN ?_ _|refine blk_drew ?_|refine blk_alloc ?_ _));exact BK124.out) hb);have n1_:=Aside0.mk (blk_below (g:=gb125) (o:=.cells #[.int .i64 0,.int .i64 0,.slice none 0 0,.int .u32 0,.int .u32 0] 32 (0,0)) (by (with_reducible repeat (first|refine blk_drewN ?_ _|refine blk_drew ?_|refine blk_alloc ?_ _));exact BK125.out) hb);have n2_:=Aside0.mk (below_step (by repeat (first|(with_reducible first|exact HB.out|apply below_alloc|apply pw_below_drewN|apply below_drew1|refine below_set ?_ GE124.out|refine below_set ?_ GE125.out)|exact HB.out)) hb);clear BK124;clear BK125;clear HB;have BK124:=n0_;have BK125:=n1_;have HB:=n2_;clear n0_ n1_ n2_;(try clear hb);(try clear hb2);(try clear hk);(try clear hi);have hcz10_0 : w9.cell? ⟨gb124,0,none⟩ = some (.int .i64 a0_0):=(blk_cell BK124.out 0).trans rfl;have hcz10_1 : w9.cell? ⟨gb124,1,none⟩ = some (.int .i64 a0_1):=(blk_cell BK124.out 1).trans rfl;have hcz10_2 : w9.cell? ⟨gb124,2,none⟩ = some (.slice A0_2 l0_2.length c0_2):=(blk_cell BK124.out 2).trans rfl;have hcz10_3 : w9.cell? ⟨gb124,3,none⟩ = some (.int .u32 a0_3):=(blk_cell BK124.out 3).trans rfl;have hcz10_4 : w9.cell? ⟨gb124,4,none⟩ = some (.int .u32 a0_4):=(blk_cell BK124.out 4).trans rfl;have hfz10_0:=blk_frozen BK124.out 0;have hfz10_1:=blk_frozen BK124.out 1;have hfz10_2:=blk_frozen BK124.out 2;have hfz10_3:=blk_frozen BK124.out 3;have hfz10_4:=blk_frozen BK124.out 4)|((with_reducible refine gate_callee (f:=13) rfl ?_);refine goesL_ (some 15) rfl rfl Try.func13 (by kernel_rfl) rfl #[.slice A0_2 l0_2.length c0_2] rfl (by (try simp only [List.map_toArray,List.map_cons,List.map_nil]);first|done|rfl|(simp only [List.length_drop,List.length_take];rfl)) ?_;(with_reducible refine (api_Arc.calls _ _ l0_2 t127 _ ?side1 ?side2 A4.out).mono ?_);(case side1=>repeat (first|exact (Kd.C_below HR0_2.out HB.out)|(with_reducible refine Kd.C_alloc ?_ _)|(with_reducible refine Kd.C_drewN ?_ _)|(with_reducible refine Kd.C_drew ?_)));(case side2=>exact HC0_2.out);rintro e w11 ⟨v128,rfl,ho0,hb⟩;refine ⟨_,rfl,?_⟩;have n0_:=Aside0.mk (Kd.R_lower ho0 (below_size (by repeat (first|(with_reducible first|exact HB.out|apply below_alloc|apply pw_below_drewN|apply below_drew1|refine below_set ?_ GE124.out|refine below_set ?_ GE125.out)|exact HB.out))));have n1_:=Aside0.mk (blk_below (g:=gb124) (o:=.cells #[.int .i64 a0_0,.int .i64 a0_1,.slice A0_2 l0_2.length c0_2,.int .u32 a0_3,.int .u32 a0_4] 32 (0,0)) (by (with_reducible repeat (first|refine blk_drewN ?_ _|refine blk_drew ?_|refine blk_alloc ?_ _));exact BK124.out) hb);have n2_:=Aside0.mk (blk_below (g:=gb125) (o:=.cells #[.int .i64 0,.int .i64 0,.slice none 0 0,.int .u32 0,.int .u32 0] 32 (0,0)) (by (with_reducible repeat (first|refine blk_drewN ?_ _|refine blk_drew ?_|refine blk_alloc ?_ _));exact BK125.out) hb);have n3_:=Aside0.mk (below_step (by repeat (first|(with_reducible first|exact HB.out|apply below_alloc|apply pw_below_drewN|apply below_drew1|refine below_set ?_ GE124.out|refine below_set ?_ GE125.out)|exact HB.out)) hb);clear BK124;clear BK125;clear HB;have HO129:=n0_;have BK124:=n1_;have BK125:=n2_;have HB:=n3_;clear n0_ n1_ n2_ n3_;(try clear hb);(try clear hb2);(try clear hk);(try clear hi);(try clear ho0);obtain ⟨Ao12,co12,eo12⟩:=Kd.R_slice HO129.out;subst eo12;have hcz13_0 : w11.cell? ⟨gb124,0,none⟩ = some (.int .i64 a0_0):=(blk_cell BK124.out 0).trans rfl;have hcz13_1 : w11.cell? ⟨gb124,1,none⟩ = some (.int .i64 a0_1):=(blk_cell BK124.out 1).trans rfl;have hcz13_2 : w11.cell? ⟨gb124,2,none⟩ = some (.slice A0_2 l0_2.length c0_2):=(blk_cell BK124.out 2).trans rfl;have hcz13_3 : w11.cell? ⟨gb124,3,none⟩ = some (.int .u32 a0_3):=(blk_cell BK124.out 3).trans rfl;have hcz13_4 : w11.cell? ⟨gb124,4,none⟩ = some (.int .u32 a0_4):=(blk_cell BK124.out 4).trans rfl;have hfz13_0:=blk_frozen BK124.out 0;have hfz13_1:=blk_frozen BK124.out 1;have hfz13_2:=blk_frozen BK124.out 2;have hfz13_3:=blk_frozen BK124.out 3;have hfz13_4:=blk_frozen BK124.out 4))
  go_loopg [20] k (fun kq v20 w'=>∃ (x18_1 : List (S45)) (x20_1 : Int) (x125002_1 : List (S45)) (u125002 : Value),v20 = .int .i64 x20_1 ∧ Aside0 (x18_1 = x125002_1) ∧ Aside0 (u125002 = .slice Ao12 t127.length co12) ∧ Aside0 (net_Back.l0 kq x18_1 (t127.length : Int) x20_1 a0_0 a0_1 x125002_1 a0_3 a0_4 = some (r1,r2,r3,r4,r5,r6)) ∧ Aside0 (kq ≤ k) ∧ Aside0 (Kd.R k45 45 w' w.heap.size (fun _=>True) (.slice Ao12 t127.length co12) x18_1) ∧ Aside0 (Kd.R k45 45 w' w.heap.size (fun _=>True) u125002 x125002_1) ∧ Aside0 (w'.heap[gb124]? = some (.cells #[.int .i64 a0_0,.int .i64 a0_1,u125002,.int .u32 a0_3,.int .u32 a0_4] 32 (0,0))) ∧ Aside0 (w'.heap[gb125]? = some (.cells #[.int .i64 0,.int .i64 0,(.slice none 0 0),.int .u32 0,.int .u32 0] 32 (0,0))) ∧ Aside0 (Below w.heap.size w w'))
  case atStart=>exact ⟨(t127),(0),(t127),(.slice Ao12 t127.length co12),(by first|rfl|(simp;done)|(simp [*];done)),⟨rfl⟩,⟨rfl⟩,H',⟨Nat.le_refl _⟩,⟨by (with_reducible repeat (first|apply Kd.R_alloc|apply Kd.R_drewN|apply Kd.R_drew));exact Kd.R_mono (Kd.R_far (p:=⟨gb124,2,none⟩) (Kd.R_types HO129.out BK124.out (by decide)) (fun _ hk=>hk.2) (.slice Ao12 t127.length co12)) (fun _ hk=>trivial)⟩,⟨by (with_reducible repeat (first|apply Kd.R_alloc|apply Kd.R_drewN|apply Kd.R_drew));exact Kd.R_mono (Kd.R_far (p:=⟨gb124,2,none⟩) (Kd.R_types HO129.out BK124.out (by decide)) (fun _ hk=>hk.2) (.slice Ao12 t127.length co12)) (fun _ hk=>trivial)⟩,⟨by (with_reducible repeat (first|refine blk_drewN ?_ _|refine blk_drew ?_|refine blk_alloc ?_ _));refine blk_put (cs:=#[.int .i64 a0_0,.int .i64 a0_1,.slice A0_2 l0_2.length c0_2,.int .u32 a0_3,.int .u32 a0_4]) ?_ 2 _ rfl;(with_reducible repeat (first|refine blk_drewN ?_ _|refine blk_drew ?_|refine blk_alloc ?_ _));exact BK124.out⟩,⟨by (with_reducible repeat (first|refine blk_drewN ?_ _|refine blk_drew ?_|refine blk_alloc ?_ _));refine blk_far ?_ NB125_124.out _;(with_reducible repeat (first|refine blk_drewN ?_ _|refine blk_drew ?_|refine blk_alloc ?_ _));exact BK125.out⟩,⟨by repeat (first|(with_reducible first|exact HB.out|apply below_alloc|apply pw_below_drewN|apply below_drew1|refine below_set ?_ GE124.out|refine below_set ?_ GE125.out)|exact HB.out)⟩⟩
  case round =>
   clear H'
   try clear c2
   try clear p2
   try clear c3
   try clear c3b0
   try clear c3b1
   try clear c4
   try clear c7
   try clear hcz10_0
   try clear hcz10_1
   try clear hcz10_2
   try clear hcz10_3
   try clear hcz10_4
   try clear hcz13_0
   try clear hcz13_1
   try clear hcz13_2
   try clear hcz13_3
   try clear hcz13_4
   try clear hcz8_0
   try clear hcz8_1
   try clear hcz8_2
   try clear hcz8_3
   try clear hcz8_4
   try clear hfz10_0
   try clear hfz10_1
   try clear hfz10_2
   try clear hfz10_3
   try clear hfz10_4
   try clear hfz13_0
   try clear hfz13_1
   try clear hfz13_2
   try clear hfz13_3
   try clear hfz13_4
   try clear hfz8_0
   try clear hfz8_1
   try clear hfz8_2
   try clear hfz8_3
   try clear hfz8_4
   obtain ⟨x18_1,x20_1,x125002_1,u125002,rfl,ex18,eu,HA,HK1,HO_18,HO_125002,BK124,BK125,HB⟩:=hrel
   have hl18_1:=(Kd.R_reads' HO_18.out).1
   rw [hl18_1] at HO_18
   (try simp only [hl18_1])
   (try simp only [hl18_1] at BK124)
   (try simp only [hl18_1] at BK125)
   (try simp only [hl18_1] at HO_125002)
   cases gk with
   | zero=>exact absurd HA.out (by simp [net_Back.l0])
   | succ k1 =>
    have H:=HA.out
    clear HA
    simp only [net_Back.l0] at H
    by_cases c14 : x20_1 < (t127.length : Int)
    ·rw [if_pos c14] at H
     have c14b0 : decide (x20_1 < (t127.length : Int)) = true:=decide_eq_true c14
     (try (have c14b0h:=c14b0;simp only [hl18_1] at c14b0h))
     clear c14
     by_cases c15 : 0 ≤ x20_1
     ·rw [if_pos c15] at H
      have c15b0 : decide (0 ≤ x20_1) = true:=decide_eq_true c15
      clear c15
      by_cases c16 : x20_1 < (x18_1.length : Int)
      ·rw [if_pos c16] at H
       have c16b0 : decide (x20_1 < (x18_1.length : Int)) = true:=decide_eq_true c16
       (try (have c16b0h:=c16b0;simp only [hl18_1] at c16b0h))
       clear c16
       by_cases c17 : x20_1 < (x125002_1.length : Int)
       ·rw [if_pos c17] at H
        have c17b0 : decide (x20_1 < (x125002_1.length : Int)) = true:=decide_eq_true c17
        (try (have c17b0h:=c17b0;simp only [hl18_1] at c17b0h))
        clear c17
        obtain ⟨y132,hy132⟩ : ∃ y_ : List (S45),y_ = (x125002_1.set (x20_1 : Int).toNat (⟨(rd_T45 x18_1 x20_1).f2,(rd_T45 x125002_1 x20_1).f1,(rd_T45 x125002_1 x20_1).f2⟩ : S45)):=⟨_,rfl⟩
        replace H : (net_Back.l0 k1 (y132.set (x20_1 : Int).toNat (⟨(rd_T45 y132 x20_1).f0,(rd_T45 y132 x20_1).f1,(rd_T45 x18_1 x20_1).f0⟩ : S45)) (t127.length : Int) (wrap64 (x20_1 + 1)) a0_0 a0_1 (y132.set (x20_1 : Int).toNat (⟨(rd_T45 y132 x20_1).f0,(rd_T45 y132 x20_1).f1,(rd_T45 x18_1 x20_1).f0⟩ : S45)) a0_3 a0_4) = some (r1,r2,r3,r4,r5,r6):=by first|(rw [hy132];with_reducible exact H)|(have H2_:=(Option.bind_some _ _).symm.trans H;rw [hy132];with_reducible exact H2_)|(have H2_:=(Option.bind_some _ _).symm.trans H;with_reducible exact H2_)|with_reducible exact H|(rw [hy132];exact H)|exact H
        have Ny132:=Aside0.mk hy132
        clear hy132
        obtain ⟨y133,hy133⟩ : ∃ y_ : List (S45),y_ = (y132.set (x20_1 : Int).toNat (⟨(rd_T45 y132 x20_1).f0,(rd_T45 y132 x20_1).f1,(rd_T45 x18_1 x20_1).f0⟩ : S45)):=⟨_,rfl⟩
        replace H : (net_Back.l0 k1 y133 (t127.length : Int) (wrap64 (x20_1 + 1)) a0_0 a0_1 y133 a0_3 a0_4) = some (r1,r2,r3,r4,r5,r6):=by first|(rw [hy133];with_reducible exact H)|(have H2_:=(Option.bind_some _ _).symm.trans H;rw [hy133];with_reducible exact H2_)|(have H2_:=(Option.bind_some _ _).symm.trans H;with_reducible exact H2_)|with_reducible exact H|(rw [hy133];exact H)|exact H
        have Ny133:=Aside0.mk hy133
        clear hy133
        have H':=Aside0.mk H
        clear H
        have p130 : 0 ≤ (x20_1 : Int):=of_decide_eq_true (by first|(with_reducible assumption)|assumption)
        have q130 : x20_1 < (x18_1.length : Int):=of_decide_eq_true (by first|(with_reducible assumption)|assumption)
        obtain ⟨ad130,e130,hx130_0,hx130_1,hx130_2⟩:=at_T45 (Kd.R_reads' HO_18.out).2.2 x20_1 p130 q130
        cases e130
        replace p130:=eq_true p130
        replace q130:=eq_true q130
        try go_wp2_with (first|((with_reducible refine gate_dst (N:=6) rfl ?_);refine box_event ?hg (N:=6) ?hd (cs:=#[.int .i64 0,.int .i64 0,.int .i64 0]) (t:=45) ?hr ?_;(case hd=>rfl);(case hg=>rfl);(case hr=>first|(go_simp;done)|(go_simp;rfl));intro gb131 hg w20 hbox hb;have n0_:=Aside0.mk (Kd.R_below (Kd.R_elderB (by (with_reducible repeat (first|apply Kd.R_alloc|apply Kd.R_drewN|apply Kd.R_drew));exact HO_18.out) gb131 (Nat.le_of_eq hg.symm)) hb);have n1_:=Aside0.mk (Kd.R_below (Kd.R_elderB (by (with_reducible repeat (first|apply Kd.R_alloc|apply Kd.R_drewN|apply Kd.R_drew));exact HO_125002.out) gb131 (Nat.le_of_eq hg.symm)) hb);have n2_:=Aside0.mk (blk_below (g:=gb124) (o:=.cells #[.int .i64 a0_0,.int .i64 a0_1,u125002,.int .u32 a0_3,.int .u32 a0_4] 32 (0,0)) (by (with_reducible repeat (first|refine blk_drewN ?_ _|refine blk_drew ?_|refine blk_alloc ?_ _));exact BK124.out) hb);have n3_:=Aside0.mk (blk_below (g:=gb125) (o:=.cells #[.int .i64 0,.int .i64 0,.slice none 0 0,.int .u32 0,.int .u32 0] 32 (0,0)) (by (with_reducible repeat (first|refine blk_drewN ?_ _|refine blk_drew ?_|refine blk_alloc ?_ _));exact BK125.out) hb);have n4_:=Aside0.mk (below_step (by repeat (first|(with_reducible first|exact HB.out|apply below_alloc|apply pw_below_drewN|apply below_drew1|refine below_set ?_ GE124.out|refine below_set ?_ GE125.out)|exact HB.out)) hb);have n5_:=Aside0.mk (hbox);have n6_:=Aside0.mk ((by rw [hg];exact (below_size (by repeat (first|(with_reducible first|exact HB.out|apply below_alloc|apply pw_below_drewN|apply below_drew1|refine below_set ?_ GE124.out|refine below_set ?_ GE125.out)|exact HB.out))) : w.heap.size ≤ gb131));have n7_:=Aside0.mk ((by rw [hg];exact (below_size (by repeat (first|(with_reducible first|exact HB.out|apply below_alloc|apply pw_below_drewN|apply below_drew1|refine below_set ?_ GE124.out|refine below_set ?_ GE125.out)|exact HB.out))) : w.heap.size ≤ gb131));have n8_:=Aside0.mk ((by rw [hg];exact Nat.ne_of_lt (blk_lt (g:=gb124) (o:=.cells #[.int .i64 a0_0,.int .i64 a0_1,u125002,.int .u32 a0_3,.int .u32 a0_4] 32 (0,0)) (by (with_reducible repeat (first|refine blk_drewN ?_ _|refine blk_drew ?_|refine blk_alloc ?_ _));exact BK124.out)) : gb124 ≠ gb131));have n9_:=Aside0.mk ((by rw [hg];exact Nat.ne_of_gt (blk_lt (g:=gb124) (o:=.cells #[.int .i64 a0_0,.int .i64 a0_1,u125002,.int .u32 a0_3,.int .u32 a0_4] 32 (0,0)) (by (with_reducible repeat (first|refine blk_drewN ?_ _|refine blk_drew ?_|refine blk_alloc ?_ _));exact BK124.out)) : gb131 ≠ gb124));have n10_:=Aside0.mk ((by rw [hg];exact Nat.ne_of_lt (blk_lt (g:=gb125) (o:=.cells #[.int .i64 0,.int .i64 0,.slice none 0 0,.int .u32 0,.int .u32 0] 32 (0,0)) (by (with_reducible repeat (first|refine blk_drewN ?_ _|refine blk_drew ?_|refine blk_alloc ?_ _));exact BK125.out)) : gb125 ≠ gb131));have n11_:=Aside0.mk ((by rw [hg];exact Nat.ne_of_gt (blk_lt (g:=gb125) (o:=.cells #[.int .i64 0,.int .i64 0,.slice none 0 0,.int .u32 0,.int .u32 0] 32 (0,0)) (by (with_reducible repeat (first|refine blk_drewN ?_ _|refine blk_drew ?_|refine blk_alloc ?_ _));exact BK125.out)) : gb131 ≠ gb125));clear HO_18;clear HO_125002;clear BK124;clear BK125;clear HB;have HO_18:=n0_;have HO_125002:=n1_;have BK124:=n2_;have BK125:=n3_;have HB:=n4_;have BK131:=n5_;have GW131:=n6_;have GE131:=n7_;have NB124_131:=n8_;have NB131_124:=n9_;have NB125_131:=n10_;have NB131_125:=n11_;clear n0_ n1_ n2_ n3_ n4_ n5_ n6_ n7_ n8_ n9_ n10_ n11_;clear hb hbox hg;have hnb21:=NB131_124.out;have hnc21:=NB124_131.out;have hnb22:=NB131_125.out;have hnc22:=NB125_131.out;have hcz23_0 : w20.cell? ⟨gb131,0,none⟩ = some (.int .i64 0):=(blk_cell BK131.out 0).trans rfl;have hcz23_1 : w20.cell? ⟨gb131,1,none⟩ = some (.int .i64 0):=(blk_cell BK131.out 1).trans rfl;have hcz23_2 : w20.cell? ⟨gb131,2,none⟩ = some (.int .i64 0):=(blk_cell BK131.out 2).trans rfl;have hfz23_0:=blk_frozen BK131.out 0;have hfz23_1:=blk_frozen BK131.out 1;have hfz23_2:=blk_frozen BK131.out 2))
        have n0_ : Aside0 (Kd.R k45 45 (((w20.setCell ⟨gb131,0,none⟩ (.int .i64 ((rd_T45 x18_1 x20_1).f0))).setCell ⟨gb131,1,none⟩ (.int .i64 ((rd_T45 x18_1 x20_1).f1))).setCell ⟨gb131,2,none⟩ (.int .i64 ((rd_T45 x18_1 x20_1).f2))) w.heap.size (fun k_=>k_ ≠ gb131) (.slice (some ad130) x18_1.length co12) x18_1):=⟨by (with_reducible repeat (first|apply Kd.R_alloc|apply Kd.R_drewN|apply Kd.R_drew));exact Kd.R_mono (Kd.R_far (p:=⟨gb131,2,none⟩) (Kd.R_far (p:=⟨gb131,1,none⟩) (Kd.R_far (p:=⟨gb131,0,none⟩) (Kd.R_mono HO_18.out (fun k_ hk=>(⟨hk,hk.2⟩ : _ ∧ k_ ≠ gb131))) (fun _ hk=>hk.2) (.int .i64 ((rd_T45 x18_1 x20_1).f0))) (fun _ hk=>hk.2) (.int .i64 ((rd_T45 x18_1 x20_1).f1))) (fun _ hk=>hk.2) (.int .i64 ((rd_T45 x18_1 x20_1).f2))) (fun _ hk=>hk.1.2)⟩
        have n1_ : Aside0 (Kd.R k45 45 (((w20.setCell ⟨gb131,0,none⟩ (.int .i64 ((rd_T45 x18_1 x20_1).f0))).setCell ⟨gb131,1,none⟩ (.int .i64 ((rd_T45 x18_1 x20_1).f1))).setCell ⟨gb131,2,none⟩ (.int .i64 ((rd_T45 x18_1 x20_1).f2))) w.heap.size (fun k_=>k_ ≠ gb131) u125002 x125002_1):=⟨by (with_reducible repeat (first|apply Kd.R_alloc|apply Kd.R_drewN|apply Kd.R_drew));exact Kd.R_mono (Kd.R_far (p:=⟨gb131,2,none⟩) (Kd.R_far (p:=⟨gb131,1,none⟩) (Kd.R_far (p:=⟨gb131,0,none⟩) (Kd.R_mono HO_125002.out (fun k_ hk=>(⟨hk,hk.2⟩ : _ ∧ k_ ≠ gb131))) (fun _ hk=>hk.2) (.int .i64 ((rd_T45 x18_1 x20_1).f0))) (fun _ hk=>hk.2) (.int .i64 ((rd_T45 x18_1 x20_1).f1))) (fun _ hk=>hk.2) (.int .i64 ((rd_T45 x18_1 x20_1).f2))) (fun _ hk=>hk.1.2)⟩
        have n2_ : Aside0 ((((w20.setCell ⟨gb131,0,none⟩ (.int .i64 ((rd_T45 x18_1 x20_1).f0))).setCell ⟨gb131,1,none⟩ (.int .i64 ((rd_T45 x18_1 x20_1).f1))).setCell ⟨gb131,2,none⟩ (.int .i64 ((rd_T45 x18_1 x20_1).f2))).heap[gb124]? = some (.cells #[.int .i64 a0_0,.int .i64 a0_1,u125002,.int .u32 a0_3,.int .u32 a0_4] 32 (0,0))):=⟨by (with_reducible repeat (first|refine blk_drewN ?_ _|refine blk_drew ?_|refine blk_alloc ?_ _));refine blk_far ?_ NB124_131.out _;(with_reducible repeat (first|refine blk_drewN ?_ _|refine blk_drew ?_|refine blk_alloc ?_ _));refine blk_far ?_ NB124_131.out _;(with_reducible repeat (first|refine blk_drewN ?_ _|refine blk_drew ?_|refine blk_alloc ?_ _));refine blk_far ?_ NB124_131.out _;(with_reducible repeat (first|refine blk_drewN ?_ _|refine blk_drew ?_|refine blk_alloc ?_ _));exact BK124.out⟩
        have n3_ : Aside0 ((((w20.setCell ⟨gb131,0,none⟩ (.int .i64 ((rd_T45 x18_1 x20_1).f0))).setCell ⟨gb131,1,none⟩ (.int .i64 ((rd_T45 x18_1 x20_1).f1))).setCell ⟨gb131,2,none⟩ (.int .i64 ((rd_T45 x18_1 x20_1).f2))).heap[gb125]? = some (.cells #[.int .i64 0,.int .i64 0,.slice none 0 0,.int .u32 0,.int .u32 0] 32 (0,0))):=⟨by (with_reducible repeat (first|refine blk_drewN ?_ _|refine blk_drew ?_|refine blk_alloc ?_ _));refine blk_far ?_ NB125_131.out _;(with_reducible repeat (first|refine blk_drewN ?_ _|refine blk_drew ?_|refine blk_alloc ?_ _));refine blk_far ?_ NB125_131.out _;(with_reducible repeat (first|refine blk_drewN ?_ _|refine blk_drew ?_|refine blk_alloc ?_ _));refine blk_far ?_ NB125_131.out _;(with_reducible repeat (first|refine blk_drewN ?_ _|refine blk_drew ?_|refine blk_alloc ?_ _));exact BK125.out⟩
        have n4_ : Aside0 ((((w20.setCell ⟨gb131,0,none⟩ (.int .i64 ((rd_T45 x18_1 x20_1).f0))).setCell ⟨gb131,1,none⟩ (.int .i64 ((rd_T45 x18_1 x20_1).f1))).setCell ⟨gb131,2,none⟩ (.int .i64 ((rd_T45 x18_1 x20_1).f2))).heap[gb131]? = some (.cells #[.int .i64 ((rd_T45 x18_1 x20_1).f0),.int .i64 ((rd_T45 x18_1 x20_1).f1),.int .i64 ((rd_T45 x18_1 x20_1).f2)] 45 (0,0))):=⟨by (with_reducible repeat (first|refine blk_drewN ?_ _|refine blk_drew ?_|refine blk_alloc ?_ _));refine blk_put (cs:=#[.int .i64 ((rd_T45 x18_1 x20_1).f0),.int .i64 ((rd_T45 x18_1 x20_1).f1),.int .i64 0]) ?_ 2 _ rfl;(with_reducible repeat (first|refine blk_drewN ?_ _|refine blk_drew ?_|refine blk_alloc ?_ _));refine blk_put (cs:=#[.int .i64 ((rd_T45 x18_1 x20_1).f0),.int .i64 0,.int .i64 0]) ?_ 1 _ rfl;(with_reducible repeat (first|refine blk_drewN ?_ _|refine blk_drew ?_|refine blk_alloc ?_ _));refine blk_put (cs:=#[.int .i64 0,.int .i64 0,.int .i64 0]) ?_ 0 _ rfl;(with_reducible repeat (first|refine blk_drewN ?_ _|refine blk_drew ?_|refine blk_alloc ?_ _));exact BK131.out⟩
        have n5_ : Aside0 (Below w.heap.size w (((w20.setCell ⟨gb131,0,none⟩ (.int .i64 ((rd_T45 x18_1 x20_1).f0))).setCell ⟨gb131,1,none⟩ (.int .i64 ((rd_T45 x18_1 x20_1).f1))).setCell ⟨gb131,2,none⟩ (.int .i64 ((rd_T45 x18_1 x20_1).f2)))):=⟨by repeat (first|(with_reducible first|exact HB.out|apply below_alloc|apply pw_below_drewN|apply below_drew1|refine below_set ?_ GE124.out|refine below_set ?_ GE125.out|refine below_set ?_ GE131.out)|exact HB.out)⟩
        (try clear HO_18)
        (try clear HO_125002)
        (try clear BK124)
        (try clear BK125)
        (try clear BK131)
        (try clear HB)
        generalize (((w20.setCell ⟨gb131,0,none⟩ (.int .i64 ((rd_T45 x18_1 x20_1).f0))).setCell ⟨gb131,1,none⟩ (.int .i64 ((rd_T45 x18_1 x20_1).f1))).setCell ⟨gb131,2,none⟩ (.int .i64 ((rd_T45 x18_1 x20_1).f2))) = w24 at n0_ n1_ n2_ n3_ n4_ n5_ ⊢
        have HO_18:=n0_
        have HO_125002:=n1_
        have BK124:=n2_
        have BK125:=n3_
        have BK131:=n4_
        have HB:=n5_
        clear n0_ n1_ n2_ n3_ n4_ n5_
        have n0_:=Aside0.mk (Kd.R_drew HO_18.out)
        have n1_:=Aside0.mk (Kd.R_drew HO_125002.out)
        have n2_:=Aside0.mk (blk_drew BK124.out)
        have n3_:=Aside0.mk (blk_drew BK125.out)
        have n4_:=Aside0.mk (blk_drew BK131.out)
        have n5_:=Aside0.mk (below_drew1 HB.out)
        clear HO_18
        clear HO_125002
        clear BK124
        clear BK125
        clear BK131
        clear HB
        have HO_18:=n0_
        have HO_125002:=n1_
        have BK124:=n2_
        have BK125:=n3_
        have BK131:=n4_
        have HB:=n5_
        clear n0_ n1_ n2_ n3_ n4_ n5_
        have p18 : 0 ≤ (x20_1 : Int):=of_decide_eq_true (by first|(with_reducible assumption)|assumption)
        have q18 : (x20_1 : Int) < ((x125002_1.length : Int) : Int):=of_decide_eq_true (by first|(with_reducible assumption)|assumption)
        obtain ⟨go18,co18,eo18,gb18,gl18,cl18,HG18⟩:=Kd.R_form HO_125002.out (by omega)
        (first|cases eo18|(injection eo18 with ea_ en_ ec_;(first|subst ea_|(injection ea_ with ea_;subst ea_));subst ec_;clear en_))
        have GB18:=Aside0.mk gb18
        have GG18:=Aside0.mk HG18
        clear gb18 gl18 HG18
        obtain ⟨ce18,hcl18,hM18,hcc18,hfr18⟩:=Kd.R_elem HO_125002.out z45 (x20_1 : Int) p18 q18
        obtain rfl:=k45_openM hM18
        have hx18_0 : World.cell? _ ⟨go18,(x20_1 : Int).toNat * 3,none⟩ = some (.int .i64 ((rd_T45 x125002_1 x20_1).f0)):=hcc18 0 _ rfl
        have hx18_1 : World.cell? _ ⟨go18,(x20_1 : Int).toNat * 3 + 1,none⟩ = some (.int .i64 ((rd_T45 x125002_1 x20_1).f1)):=hcc18 1 _ rfl
        have hx18_2 : World.cell? _ ⟨go18,(x20_1 : Int).toNat * 3 + 2,none⟩ = some (.int .i64 ((rd_T45 x125002_1 x20_1).f2)):=hcc18 2 _ rfl
        have hf18_0 : World.frozen? _ ⟨go18,(x20_1 : Int).toNat * 3,none⟩ = false:=hfr18 0
        have hf18_1 : World.frozen? _ ⟨go18,(x20_1 : Int).toNat * 3 + 1,none⟩ = false:=hfr18 1
        have hf18_2 : World.frozen? _ ⟨go18,(x20_1 : Int).toNat * 3 + 2,none⟩ = false:=hfr18 2
        clear hcl18 hcc18 hfr18 hM18
        replace p18:=eq_true p18
        replace q18:=eq_true q18
        obtain ⟨ce26,hcl26,hM26,hcc26,hfr26⟩:=Kd.R_elem HO_125002.out z45 (x20_1 : Int) (of_decide_eq_true (by first|(with_reducible assumption)|assumption)) (by have h_ : (x20_1 : Int) < ((x125002_1.length : Int) : Int):=of_decide_eq_true (by first|(with_reducible assumption)|assumption);first|exact h_|(have e_:=(Kd.R_reads' HO_125002.out).1;omega)|simpa using h_)
        obtain rfl:=k45_openM hM26
        have HP26:=(Kd.R_seg HO_125002.out (x20_1 : Int) (of_decide_eq_true (by first|(with_reducible assumption)|assumption)) (by have h_ : (x20_1 : Int) < ((x125002_1.length : Int) : Int):=of_decide_eq_true (by first|(with_reducible assumption)|assumption);first|exact h_|(have e_:=(Kd.R_reads' HO_125002.out).1;omega)|simpa using h_) (seg:=[.int .i64 ((rd_T45 x18_1 x20_1).f2)]) (j:=0) hcl26 hcc26 (show 1 ≤ 3 from by decide) (x':=(⟨(rd_T45 x18_1 x20_1).f2,(rd_T45 x125002_1 x20_1).f1,(rd_T45 x125002_1 x20_1).f2⟩ : S45)) (k45_mkM _ _ _ (⟨(rd_T45 x18_1 x20_1).f2,(rd_T45 x125002_1 x20_1).f1,(rd_T45 x125002_1 x20_1).f2⟩ : S45) ) (fun _ hk=>hk)).1
        rw [← Ny132.out] at HP26
        have HQ26:=Aside0.mk HP26
        clear hcl26 hcc26 hfr26 hM26 HP26
        have p19 : 0 ≤ (x20_1 : Int):=of_decide_eq_true (by first|(with_reducible assumption)|assumption)
        have q19 : (x20_1 : Int) < ((x125002_1.length : Int) : Int):=of_decide_eq_true (by first|(with_reducible assumption)|assumption)
        replace p19:=eq_true p19
        replace q19:=eq_true q19
        obtain ⟨ce27,hcl27,hM27,hcc27,hfr27⟩:=Kd.R_elem HQ26.out z45 (x20_1 : Int) (of_decide_eq_true (by first|(with_reducible assumption)|assumption)) (by have h_ : (x20_1 : Int) < ((x125002_1.length : Int) : Int):=of_decide_eq_true (by first|(with_reducible assumption)|assumption);first|exact h_|(have e_:=(Kd.R_reads' HO_125002.out).1;omega)|simpa using h_)
        obtain rfl:=k45_openM hM27
        have HP27:=(Kd.R_seg HQ26.out (x20_1 : Int) (of_decide_eq_true (by first|(with_reducible assumption)|assumption)) (by have h_ : (x20_1 : Int) < ((x125002_1.length : Int) : Int):=of_decide_eq_true (by first|(with_reducible assumption)|assumption);first|exact h_|(have e_:=(Kd.R_reads' HO_125002.out).1;omega)|simpa using h_) (seg:=[.int .i64 ((rd_T45 x18_1 x20_1).f0)]) (j:=2) hcl27 hcc27 (show 3 ≤ 3 from by decide) (x':=(⟨(rd_T45 y132 x20_1).f0,(rd_T45 y132 x20_1).f1,(rd_T45 x18_1 x20_1).f0⟩ : S45)) (k45_mkM _ _ _ (⟨(rd_T45 y132 x20_1).f0,(rd_T45 y132 x20_1).f1,(rd_T45 x18_1 x20_1).f0⟩ : S45) ) (fun _ hk=>hk)).1
        rw [← Ny133.out] at HP27
        have HQ27:=Aside0.mk HP27
        clear hcl27 hcc27 hfr27 hM27 HP27
        refine start_ (n:=16) (S:=fun w'=>w'.cell? ⟨gb124,0,none⟩ = some (.int .i64 a0_0) ∧ w'.cell? ⟨gb124,1,none⟩ = some (.int .i64 a0_1) ∧ w'.cell? ⟨gb124,2,none⟩ = some (.slice (some ⟨go18,0,none⟩) x125002_1.length co18) ∧ w'.cell? ⟨gb124,3,none⟩ = some (.int .u32 a0_3) ∧ w'.cell? ⟨gb124,4,none⟩ = some (.int .u32 a0_4) ∧ w'.cell? ⟨gb131,0,none⟩ = some (.int .i64 ((rd_T45 x18_1 x20_1).f0)) ∧ w'.cell? ⟨gb131,1,none⟩ = some (.int .i64 ((rd_T45 x18_1 x20_1).f1)) ∧ w'.cell? ⟨gb131,2,none⟩ = some (.int .i64 ((rd_T45 x18_1 x20_1).f2))) (ds:=[]) #[false,false,false,false,false,false,false,false,false,false,false,false,false,false,false,false] (by kernel_rfl) rfl rfl ⟨(blk_cell BK124.out 0).trans rfl,(blk_cell BK124.out 1).trans rfl,(blk_cell BK124.out 2).trans rfl,(blk_cell BK124.out 3).trans rfl,(blk_cell BK124.out 4).trans rfl,(blk_cell BK131.out 0).trans rfl,(blk_cell BK131.out 1).trans rfl,(blk_cell BK131.out 2).trans rfl⟩ (fun hHeld=>?_);refine with_tabW net_Back.tab8 net_Back.bits8 (fun HT_ HW_=>?_)
        generalize w24.drew = w25 at HO_18 HO_125002 BK124 BK125 BK131 HB GG18 HQ26 HQ27 hf18_0 hf18_1 hf18_2 hx18_0 hx18_1 hx18_2 hHeld ⊢
        refine pure_ (i:=0) (N:=some 25) (v:=?_) (a':=?_) #[true,false,false,false,false,false,false,false,false,false,false,false,false,false,false,false] rfl rfl (any_of HT_.out (by kernel_rfl)) (fun _ _ _ h=>h) (Or.inl ⟨by rfl,?_⟩) ?_ ?_
        rotate_left
        ·intro w'
         go_simp
         with_reducible rfl
        rotate_left
        ·simp only [Act.put,List.setIfInBounds_toArray,List.set_cons_zero,List.set_cons_succ,i64_w,i32_w]
         rfl
        refine pure_ (i:=2) (N:=some 27) (v:=?_) (a':=?_) #[true,false,true,false,false,false,false,false,false,false,false,false,false,false,false,false] rfl rfl (any_of HT_.out (by kernel_rfl)) (fun _ _ _ h=>h) (Or.inl ⟨by rfl,?_⟩) ?_ ?_
        rotate_left
        ·intro w'
         go_simp
         with_reducible rfl
        rotate_left
        ·simp only [Act.put,List.setIfInBounds_toArray,List.set_cons_zero,List.set_cons_succ,i64_w,i32_w]
         rfl
        refine pure_ (i:=3) (N:=some 28) (v:=?_) (a':=?_) #[true,false,true,true,false,false,false,false,false,false,false,false,false,false,false,false] rfl rfl (any_of HT_.out (by kernel_rfl)) (fun _ _ _ h=>h) (Or.inl ⟨by rfl,?_⟩) ?_ ?_
        rotate_left
        ·intro w'
         go_simp
         with_reducible rfl
        rotate_left
        ·simp only [Act.put,List.setIfInBounds_toArray,List.set_cons_zero,List.set_cons_succ,i64_w,i32_w]
         rfl
        refine pure_ (i:=5) (N:=some 30) (v:=?_) (a':=?_) #[true,false,true,true,false,true,false,false,false,false,false,false,false,false,false,false] rfl rfl (any_of HT_.out (by kernel_rfl)) (fun _ _ _ h=>h) (Or.inl ⟨by rfl,?_⟩) ?_ ?_
        rotate_left
        ·intro w'
         go_simp
         with_reducible rfl
        rotate_left
        ·simp only [Act.put,List.setIfInBounds_toArray,List.set_cons_zero,List.set_cons_succ,i64_w,i32_w]
         rfl
        refine pure_ (i:=6) (N:=some 31) (v:=?_) (a':=?_) #[true,false,true,true,false,true,true,false,false,false,false,false,false,false,false,false] rfl rfl (any_of HT_.out (by kernel_rfl)) (fun _ _ _ h=>h) (Or.inl ⟨by rfl,?_⟩) ?_ ?_
        rotate_left
        ·intro w'
         go_simp
         with_reducible rfl
        rotate_left
        ·simp only [Act.put,List.setIfInBounds_toArray,List.set_cons_zero,List.set_cons_succ,i64_w,i32_w]
         rfl
        refine pure_ (i:=8) (N:=some 33) (v:=?_) (a':=?_) #[true,false,true,true,false,true,true,false,true,false,false,false,false,false,false,false] rfl rfl (any_of HT_.out (by kernel_rfl)) (fun _ _ _ h=>h) (Or.inl ⟨by rfl,?_⟩) ?_ ?_
        rotate_left
        ·intro w'
         go_simp
         with_reducible rfl
        rotate_left
        ·simp only [Act.put,List.setIfInBounds_toArray,List.set_cons_zero,List.set_cons_succ,i64_w,i32_w]
         rfl
        refine take_ (i:=1) (N:=some 26) (v:=?_) (a':=?_) #[true,true,true,true,false,true,true,false,true,false,false,false,false,false,false,false] rfl rfl (take_ofW HT_.out HW_.out (by kernel_rfl)) (fun _ _ _ h=>h) (Or.inl ⟨by rfl,?_⟩) hHeld ?_ ?_
        rotate_left
        ·rintro w' ⟨s0,s1,s2,s3,s4,s5,s6,s7⟩
         go_simp
         with_reducible rfl
        rotate_left
        ·simp only [Act.put,List.setIfInBounds_toArray,List.set_cons_zero,List.set_cons_succ,i64_w,i32_w]
         rfl
        refine take_ (i:=4) (N:=some 29) (v:=?_) (a':=?_) #[true,true,true,true,true,true,true,false,true,false,false,false,false,false,false,false] rfl rfl (take_ofW HT_.out HW_.out (by kernel_rfl)) (fun _ _ _ h=>h) (Or.inl ⟨by rfl,?_⟩) hHeld ?_ ?_
        rotate_left
        ·rintro w' ⟨s0,s1,s2,s3,s4,s5,s6,s7⟩
         go_simp
         with_reducible rfl
        rotate_left
        ·simp only [Act.put,List.setIfInBounds_toArray,List.set_cons_zero,List.set_cons_succ,i64_w,i32_w]
         rfl
        refine take_ (i:=7) (N:=some 32) (v:=?_) (a':=?_) #[true,true,true,true,true,true,true,true,true,false,false,false,false,false,false,false] rfl rfl (take_ofW HT_.out HW_.out (by kernel_rfl)) (fun _ _ _ h=>h) (Or.inl ⟨by rfl,?_⟩) hHeld ?_ ?_
        rotate_left
        ·rintro w' ⟨s0,s1,s2,s3,s4,s5,s6,s7⟩
         go_simp
         with_reducible rfl
        rotate_left
        ·simp only [Act.put,List.setIfInBounds_toArray,List.set_cons_zero,List.set_cons_succ,i64_w,i32_w]
         rfl
        refine pure_ (i:=10) (N:=some 35) (v:=?_) (a':=?_) #[true,true,true,true,true,true,true,true,true,false,true,false,false,false,false,false] rfl rfl (any_of HT_.out (by kernel_rfl)) (fun _ _ _ h=>h) (Or.inl ⟨by rfl,?_⟩) ?_ ?_
        rotate_left
        ·intro w'
         go_simp
         with_reducible rfl
        rotate_left
        ·simp only [Act.put,List.setIfInBounds_toArray,List.set_cons_zero,List.set_cons_succ,i64_w,i32_w]
         rfl
        refine pure_ (i:=11) (N:=some 36) (v:=?_) (a':=?_) #[true,true,true,true,true,true,true,true,true,false,true,true,false,false,false,false] rfl rfl (any_of HT_.out (by kernel_rfl)) (fun _ _ _ h=>h) (Or.inl ⟨by rfl,?_⟩) ?_ ?_
        rotate_left
        ·intro w'
         go_simp
         with_reducible rfl
        rotate_left
        ·simp only [Act.put,List.setIfInBounds_toArray,List.set_cons_zero,List.set_cons_succ,i64_w,i32_w]
         rfl
        refine take_ (i:=9) (N:=some 34) (v:=?_) (a':=?_) #[true,true,true,true,true,true,true,true,true,true,true,true,false,false,false,false] rfl rfl (take_ofW HT_.out HW_.out (by kernel_rfl)) (fun _ _ _ h=>h) (Or.inl ⟨by rfl,?_⟩) hHeld ?_ ?_
        rotate_left
        ·rintro w' ⟨s0,s1,s2,s3,s4,s5,s6,s7⟩
         go_simp
         with_reducible rfl
        rotate_left
        ·simp only [Act.put,List.setIfInBounds_toArray,List.set_cons_zero,List.set_cons_succ,i64_w,i32_w]
         rfl
        refine one_ (i:=12) (N:=none) #[true,true,true,true,true,true,true,true,true,true,true,true,true,false,false,false] rfl rfl (one_of HT_.out (by kernel_rfl)) (by decide) (fun K hK=>?_)
        refine skip_ (w1:=?_) (by rfl) rfl ?_ ?_
        rotate_left
        ·go_simp
         rfl
        refine hK.out _ _ ⟨((cell_far (p:=⟨go18,_,none⟩) (by first|exact (by have h_:=Kd.R_ne HO_125002.out BK124.out (by decide);intro e_;exact h_ (by first|(rw [e_];rfl)|exact congrArg some e_.symm|exact congrArg some e_))|exact Ne.symm (by have h_:=Kd.R_ne HO_125002.out BK124.out (by decide);intro e_;exact h_ (by first|(rw [e_];rfl)|exact congrArg some e_.symm|exact congrArg some e_))) _).trans (hHeld.1)),((cell_far (p:=⟨go18,_,none⟩) (by first|exact (by have h_:=Kd.R_ne HO_125002.out BK124.out (by decide);intro e_;exact h_ (by first|(rw [e_];rfl)|exact congrArg some e_.symm|exact congrArg some e_))|exact Ne.symm (by have h_:=Kd.R_ne HO_125002.out BK124.out (by decide);intro e_;exact h_ (by first|(rw [e_];rfl)|exact congrArg some e_.symm|exact congrArg some e_))) _).trans (hHeld.2.1)),((cell_far (p:=⟨go18,_,none⟩) (by first|exact (by have h_:=Kd.R_ne HO_125002.out BK124.out (by decide);intro e_;exact h_ (by first|(rw [e_];rfl)|exact congrArg some e_.symm|exact congrArg some e_))|exact Ne.symm (by have h_:=Kd.R_ne HO_125002.out BK124.out (by decide);intro e_;exact h_ (by first|(rw [e_];rfl)|exact congrArg some e_.symm|exact congrArg some e_))) _).trans (hHeld.2.2.1)),((cell_far (p:=⟨go18,_,none⟩) (by first|exact (by have h_:=Kd.R_ne HO_125002.out BK124.out (by decide);intro e_;exact h_ (by first|(rw [e_];rfl)|exact congrArg some e_.symm|exact congrArg some e_))|exact Ne.symm (by have h_:=Kd.R_ne HO_125002.out BK124.out (by decide);intro e_;exact h_ (by first|(rw [e_];rfl)|exact congrArg some e_.symm|exact congrArg some e_))) _).trans (hHeld.2.2.2.1)),((cell_far (p:=⟨go18,_,none⟩) (by first|exact (by have h_:=Kd.R_ne HO_125002.out BK124.out (by decide);intro e_;exact h_ (by first|(rw [e_];rfl)|exact congrArg some e_.symm|exact congrArg some e_))|exact Ne.symm (by have h_:=Kd.R_ne HO_125002.out BK124.out (by decide);intro e_;exact h_ (by first|(rw [e_];rfl)|exact congrArg some e_.symm|exact congrArg some e_))) _).trans (hHeld.2.2.2.2.1)),((cell_far (p:=⟨go18,_,none⟩) (by first|exact (by have h_:=Kd.R_away HO_125002.out (fun _ hk=>hk);intro e_;exact h_ (by first|(rw [e_];rfl)|exact congrArg some e_.symm|exact congrArg some e_))|exact Ne.symm (by have h_:=Kd.R_away HO_125002.out (fun _ hk=>hk);intro e_;exact h_ (by first|(rw [e_];rfl)|exact congrArg some e_.symm|exact congrArg some e_))) _).trans (hHeld.2.2.2.2.2.1)),((cell_far (p:=⟨go18,_,none⟩) (by first|exact (by have h_:=Kd.R_away HO_125002.out (fun _ hk=>hk);intro e_;exact h_ (by first|(rw [e_];rfl)|exact congrArg some e_.symm|exact congrArg some e_))|exact Ne.symm (by have h_:=Kd.R_away HO_125002.out (fun _ hk=>hk);intro e_;exact h_ (by first|(rw [e_];rfl)|exact congrArg some e_.symm|exact congrArg some e_))) _).trans (hHeld.2.2.2.2.2.2.1)),((cell_far (p:=⟨go18,_,none⟩) (by first|exact (by have h_:=Kd.R_away HO_125002.out (fun _ hk=>hk);intro e_;exact h_ (by first|(rw [e_];rfl)|exact congrArg some e_.symm|exact congrArg some e_))|exact Ne.symm (by have h_:=Kd.R_away HO_125002.out (fun _ hk=>hk);intro e_;exact h_ (by first|(rw [e_];rfl)|exact congrArg some e_.symm|exact congrArg some e_))) _).trans (hHeld.2.2.2.2.2.2.2))⟩ (fun hHeld=>?_)
        clear hK K
        refine pure_ (i:=13) (N:=some 37) (v:=?_) (a':=?_) #[true,true,true,true,true,true,true,true,true,true,true,true,true,true,false,false] rfl rfl (any_of HT_.out (by kernel_rfl)) (fun _ _ _ h=>h) (Or.inl ⟨by rfl,?_⟩) ?_ ?_
        rotate_left
        ·intro w'
         go_simp
         with_reducible rfl
        rotate_left
        ·simp only [Act.put,List.setIfInBounds_toArray,List.set_cons_zero,List.set_cons_succ,i64_w,i32_w]
         rfl
        refine pure_ (i:=14) (N:=some 38) (v:=?_) (a':=?_) #[true,true,true,true,true,true,true,true,true,true,true,true,true,true,true,false] rfl rfl (any_of HT_.out (by kernel_rfl)) (fun _ _ _ h=>h) (Or.inl ⟨by rfl,?_⟩) ?_ ?_
        rotate_left
        ·intro w'
         go_simp
         with_reducible rfl
        rotate_left
        ·simp only [Act.put,List.setIfInBounds_toArray,List.set_cons_zero,List.set_cons_succ,i64_w,i32_w]
         rfl
        refine one_ (i:=15) (N:=none) #[true,true,true,true,true,true,true,true,true,true,true,true,true,true,true,true] rfl rfl (one_of HT_.out (by kernel_rfl)) (by decide) (fun K hK=>?_)
        refine skip_ (w1:=?_) (by rfl) rfl ?_ ?_
        rotate_left
        ·go_simp
         rfl
        refine hK.out _ _ ⟨((cell_far (p:=⟨go18,_,none⟩) (by first|exact (by have h_:=Kd.R_ne HO_125002.out BK124.out (by decide);intro e_;exact h_ (by first|(rw [e_];rfl)|exact congrArg some e_.symm|exact congrArg some e_))|exact Ne.symm (by have h_:=Kd.R_ne HO_125002.out BK124.out (by decide);intro e_;exact h_ (by first|(rw [e_];rfl)|exact congrArg some e_.symm|exact congrArg some e_))) _).trans (hHeld.1)),((cell_far (p:=⟨go18,_,none⟩) (by first|exact (by have h_:=Kd.R_ne HO_125002.out BK124.out (by decide);intro e_;exact h_ (by first|(rw [e_];rfl)|exact congrArg some e_.symm|exact congrArg some e_))|exact Ne.symm (by have h_:=Kd.R_ne HO_125002.out BK124.out (by decide);intro e_;exact h_ (by first|(rw [e_];rfl)|exact congrArg some e_.symm|exact congrArg some e_))) _).trans (hHeld.2.1)),((cell_far (p:=⟨go18,_,none⟩) (by first|exact (by have h_:=Kd.R_ne HO_125002.out BK124.out (by decide);intro e_;exact h_ (by first|(rw [e_];rfl)|exact congrArg some e_.symm|exact congrArg some e_))|exact Ne.symm (by have h_:=Kd.R_ne HO_125002.out BK124.out (by decide);intro e_;exact h_ (by first|(rw [e_];rfl)|exact congrArg some e_.symm|exact congrArg some e_))) _).trans (hHeld.2.2.1)),((cell_far (p:=⟨go18,_,none⟩) (by first|exact (by have h_:=Kd.R_ne HO_125002.out BK124.out (by decide);intro e_;exact h_ (by first|(rw [e_];rfl)|exact congrArg some e_.symm|exact congrArg some e_))|exact Ne.symm (by have h_:=Kd.R_ne HO_125002.out BK124.out (by decide);intro e_;exact h_ (by first|(rw [e_];rfl)|exact congrArg some e_.symm|exact congrArg some e_))) _).trans (hHeld.2.2.2.1)),((cell_far (p:=⟨go18,_,none⟩) (by first|exact (by have h_:=Kd.R_ne HO_125002.out BK124.out (by decide);intro e_;exact h_ (by first|(rw [e_];rfl)|exact congrArg some e_.symm|exact congrArg some e_))|exact Ne.symm (by have h_:=Kd.R_ne HO_125002.out BK124.out (by decide);intro e_;exact h_ (by first|(rw [e_];rfl)|exact congrArg some e_.symm|exact congrArg some e_))) _).trans (hHeld.2.2.2.2.1)),((cell_far (p:=⟨go18,_,none⟩) (by first|exact (by have h_:=Kd.R_away HO_125002.out (fun _ hk=>hk);intro e_;exact h_ (by first|(rw [e_];rfl)|exact congrArg some e_.symm|exact congrArg some e_))|exact Ne.symm (by have h_:=Kd.R_away HO_125002.out (fun _ hk=>hk);intro e_;exact h_ (by first|(rw [e_];rfl)|exact congrArg some e_.symm|exact congrArg some e_))) _).trans (hHeld.2.2.2.2.2.1)),((cell_far (p:=⟨go18,_,none⟩) (by first|exact (by have h_:=Kd.R_away HO_125002.out (fun _ hk=>hk);intro e_;exact h_ (by first|(rw [e_];rfl)|exact congrArg some e_.symm|exact congrArg some e_))|exact Ne.symm (by have h_:=Kd.R_away HO_125002.out (fun _ hk=>hk);intro e_;exact h_ (by first|(rw [e_];rfl)|exact congrArg some e_.symm|exact congrArg some e_))) _).trans (hHeld.2.2.2.2.2.2.1)),((cell_far (p:=⟨go18,_,none⟩) (by first|exact (by have h_:=Kd.R_away HO_125002.out (fun _ hk=>hk);intro e_;exact h_ (by first|(rw [e_];rfl)|exact congrArg some e_.symm|exact congrArg some e_))|exact Ne.symm (by have h_:=Kd.R_away HO_125002.out (fun _ hk=>hk);intro e_;exact h_ (by first|(rw [e_];rfl)|exact congrArg some e_.symm|exact congrArg some e_))) _).trans (hHeld.2.2.2.2.2.2.2))⟩ (fun hHeld=>?_)
        clear hK K
        refine done_ (done_of HT_.out (by kernel_rfl)) ?_
        try go_wp2
        (try simp only [← hl18_1])
        go_roundg k1
        case measure=>have:=HK1.out;omega
        case rel=>exact ⟨(y133),(wrap64 (x20_1 + 1)),(y133),(.slice (some ⟨go18,0,none⟩) x125002_1.length co18),(by first|rfl|(simp;done)|(simp [*];done)),⟨rfl⟩,eu,H',⟨by have:=HK1.out;omega⟩,⟨by have eu:=eu.out;have eu2:=eu;(try simp only [hl18_1] at eu2);(try simp only [hl18_1]);(with_reducible repeat (first|apply Kd.R_alloc|apply Kd.R_drewN|apply Kd.R_drew));first|(rw [← eu];exact Kd.R_mono HQ27.out (fun _ _=>trivial))|(rw [← eu2];exact Kd.R_mono HQ27.out (fun _ _=>trivial))⟩,⟨by (try simp only [hl18_1]);(with_reducible repeat (first|apply Kd.R_alloc|apply Kd.R_drewN|apply Kd.R_drew));exact Kd.R_mono HQ27.out (fun _ _=>trivial)⟩,⟨by (try simp only [hl18_1]);(with_reducible repeat (first|refine blk_drewN ?_ _|refine blk_drew ?_|refine blk_alloc ?_ _));refine blk_far ?_ (by have h_:=Kd.R_ne HO_125002.out BK124.out (by decide);intro e_;exact h_ (by first|(rw [e_];rfl)|exact congrArg some e_.symm|exact congrArg some e_)) _;(with_reducible repeat (first|refine blk_drewN ?_ _|refine blk_drew ?_|refine blk_alloc ?_ _));refine blk_far ?_ (by have h_:=Kd.R_ne HO_125002.out BK124.out (by decide);intro e_;exact h_ (by first|(rw [e_];rfl)|exact congrArg some e_.symm|exact congrArg some e_)) _;(with_reducible repeat (first|refine blk_drewN ?_ _|refine blk_drew ?_|refine blk_alloc ?_ _));exact BK124.out⟩,⟨by (try simp only [hl18_1]);(with_reducible repeat (first|refine blk_drewN ?_ _|refine blk_drew ?_|refine blk_alloc ?_ _));refine blk_far ?_ (by have h_:=Kd.R_ne HO_125002.out BK125.out (by decide);intro e_;exact h_ (by first|(rw [e_];rfl)|exact congrArg some e_.symm|exact congrArg some e_)) _;(with_reducible repeat (first|refine blk_drewN ?_ _|refine blk_drew ?_|refine blk_alloc ?_ _));refine blk_far ?_ (by have h_:=Kd.R_ne HO_125002.out BK125.out (by decide);intro e_;exact h_ (by first|(rw [e_];rfl)|exact congrArg some e_.symm|exact congrArg some e_)) _;(with_reducible repeat (first|refine blk_drewN ?_ _|refine blk_drew ?_|refine blk_alloc ?_ _));exact BK125.out⟩,⟨by repeat (first|(with_reducible first|exact HB.out|apply below_alloc|apply pw_below_drewN|apply below_drew1|refine below_set ?_ GB18.out|refine below_set ?_ GB18.out|refine below_set ?_ GE124.out|refine below_set ?_ GE125.out|refine below_set ?_ GE131.out)|exact HB.out)⟩⟩
       ·rw [if_neg c17] at H
        exact absurd H (by simp)
      ·rw [if_neg c16] at H
       exact absurd H (by simp)
     ·rw [if_neg c15] at H
      exact absurd H (by simp)
    ·rw [if_neg c14] at H
     have c14b0 : decide (x20_1 < (t127.length : Int)) = false:=decide_eq_false c14
     (try (have c14b0h:=c14b0;simp only [hl18_1] at c14b0h))
     clear c14
     simp only [Option.some.injEq,Prod.mk.injEq] at H
     obtain ⟨rfl,rfl,rfl,rfl,rfl,rfl⟩:=H
     have hnb28:=NB124_125.out
     have hnc28:=NB125_124.out
     have hcz29_0 : wr.cell? ⟨gb124,0,none⟩ = some (.int .i64 a0_0):=(blk_cell BK124.out 0).trans rfl
     have hcz29_1 : wr.cell? ⟨gb124,1,none⟩ = some (.int .i64 a0_1):=(blk_cell BK124.out 1).trans rfl
     have hcz29_2 : wr.cell? ⟨gb124,2,none⟩ = some (u125002):=(blk_cell BK124.out 2).trans rfl
     have hcz29_3 : wr.cell? ⟨gb124,3,none⟩ = some (.int .u32 a0_3):=(blk_cell BK124.out 3).trans rfl
     have hcz29_4 : wr.cell? ⟨gb124,4,none⟩ = some (.int .u32 a0_4):=(blk_cell BK124.out 4).trans rfl
     have hfz29_0:=blk_frozen BK124.out 0
     have hfz29_1:=blk_frozen BK124.out 1
     have hfz29_2:=blk_frozen BK124.out 2
     have hfz29_3:=blk_frozen BK124.out 3
     have hfz29_4:=blk_frozen BK124.out 4
     have hcz30_0 : wr.cell? ⟨gb125,0,none⟩ = some (.int .i64 0):=(blk_cell BK125.out 0).trans rfl
     have hcz30_1 : wr.cell? ⟨gb125,1,none⟩ = some (.int .i64 0):=(blk_cell BK125.out 1).trans rfl
     have hcz30_2 : wr.cell? ⟨gb125,2,none⟩ = some (.slice none 0 0):=(blk_cell BK125.out 2).trans rfl
     have hcz30_3 : wr.cell? ⟨gb125,3,none⟩ = some (.int .u32 0):=(blk_cell BK125.out 3).trans rfl
     have hcz30_4 : wr.cell? ⟨gb125,4,none⟩ = some (.int .u32 0):=(blk_cell BK125.out 4).trans rfl
     have hfz30_0:=blk_frozen BK125.out 0
     have hfz30_1:=blk_frozen BK125.out 1
     have hfz30_2:=blk_frozen BK125.out 2
     have hfz30_3:=blk_frozen BK125.out 3
     have hfz30_4:=blk_frozen BK125.out 4
     obtain ⟨Ao31,co31,eo31⟩:=Kd.R_slice HO_125002.out
     subst eo31
     go_wp2
     refine bodyPost_ret (results_ct rfl _ _ gb125 32 #[.int .i64 a0_0,.int .i64 a0_1,.slice Ao31 x125002_1.length co31,.int .u32 a0_4,.int .u32 a0_3] (0,0) _ rfl (by (with_reducible repeat (first|refine blk_drewN ?_ _|refine blk_drew ?_|refine blk_alloc ?_ _));refine blk_put (cs:=#[.int .i64 a0_0,.int .i64 a0_1,.slice Ao31 x125002_1.length co31,.int .u32 a0_4,.int .u32 0]) ?_ 4 _ rfl;(with_reducible repeat (first|refine blk_drewN ?_ _|refine blk_drew ?_|refine blk_alloc ?_ _));refine blk_put (cs:=#[.int .i64 a0_0,.int .i64 a0_1,.slice Ao31 x125002_1.length co31,.int .u32 0,.int .u32 0]) ?_ 3 _ rfl;(with_reducible repeat (first|refine blk_drewN ?_ _|refine blk_drew ?_|refine blk_alloc ?_ _));refine blk_put (cs:=#[.int .i64 a0_0,.int .i64 a0_1,.slice none 0 0,.int .u32 0,.int .u32 0]) ?_ 2 _ rfl;(with_reducible repeat (first|refine blk_drewN ?_ _|refine blk_drew ?_|refine blk_alloc ?_ _));refine blk_put (cs:=#[.int .i64 a0_0,.int .i64 0,.slice none 0 0,.int .u32 0,.int .u32 0]) ?_ 1 _ rfl;(with_reducible repeat (first|refine blk_drewN ?_ _|refine blk_drew ?_|refine blk_alloc ?_ _));refine blk_put (cs:=#[.int .i64 0,.int .i64 0,.slice none 0 0,.int .u32 0,.int .u32 0]) ?_ 0 _ rfl;(with_reducible repeat (first|refine blk_drewN ?_ _|refine blk_drew ?_|refine blk_alloc ?_ _));refine blk_far ?_ NB125_124.out _;(with_reducible repeat (first|refine blk_drewN ?_ _|refine blk_drew ?_|refine blk_alloc ?_ _));refine blk_far ?_ NB125_124.out _;(with_reducible repeat (first|refine blk_drewN ?_ _|refine blk_drew ?_|refine blk_alloc ?_ _));exact BK125.out) Try.underlying32 rfl (by kernel_rfl)) rfl ?_
     exact ⟨_,by first|rfl|(simp [errW_none,errW_some] <;> rfl)|(simp [*,errW_none,errW_some] <;> rfl),by (with_reducible repeat (first|apply Kd.R_alloc|apply Kd.R_drewN|apply Kd.R_drew));exact Kd.R_mono (Kd.R_far (p:=⟨gb125,4,none⟩) (Kd.R_far (p:=⟨gb125,3,none⟩) (Kd.R_far (p:=⟨gb125,2,none⟩) (Kd.R_far (p:=⟨gb125,1,none⟩) (Kd.R_far (p:=⟨gb125,0,none⟩) (Kd.R_far (p:=⟨gb124,4,none⟩) (Kd.R_far (p:=⟨gb124,3,none⟩) (Kd.R_types (Kd.R_types HO_125002.out BK124.out (by decide)) BK125.out (by decide)) (fun _ hk=>hk.1.2) (.int .u32 a0_4)) (fun _ hk=>hk.1.2) (.int .u32 a0_3)) (fun _ hk=>hk.2) (.int .i64 a0_0)) (fun _ hk=>hk.2) (.int .i64 a0_1)) (fun _ hk=>hk.2) (.slice Ao31 x125002_1.length co31)) (fun _ hk=>hk.2) (.int .u32 a0_4)) (fun _ hk=>hk.2) (.int .u32 a0_3)) (fun _ hk=>trivial),by repeat (first|(with_reducible first|exact HB.out|apply below_alloc|apply pw_below_drewN|apply below_drew1|refine below_set ?_ GE124.out|refine below_set ?_ GE125.out)|exact HB.out)⟩
 ·rw [if_neg c3] at H
  have c3b0 : (t126 == 0) = false:=beq_eq_false_iff_ne.mpr c3
  have c3b1 : (t126 != 0) = true:=bne_iff_ne.mpr c3
  simp only [Option.some.injEq,Prod.mk.injEq] at H
  obtain ⟨rfl,rfl,rfl,rfl,rfl,rfl⟩:=H
  go_enter Try.func6,Try.ntmps6
  go_wp2_with (first|((with_reducible refine gate_dst (N:=1) rfl ?_);refine box_event ?hg (N:=1) ?hd (cs:=#[.int .i64 a0_0,.int .i64 a0_1,.slice A0_2 l0_2.length c0_2,.int .u32 a0_3,.int .u32 a0_4]) (t:=32) ?hr ?_;(case hd=>rfl);(case hg=>rfl);(case hr=>first|(go_simp;done)|(go_simp;rfl));intro gb124 hg w32 hbox hb;have n0_:=Aside0.mk (below_step (by repeat (first|(with_reducible first|exact HB.out|apply below_alloc|apply pw_below_drewN|apply below_drew1)|exact HB.out)) hb);have n1_:=Aside0.mk (hbox);have n2_:=Aside0.mk ((by rw [hg];exact (below_size (by repeat (first|(with_reducible first|exact HB.out|apply below_alloc|apply pw_below_drewN|apply below_drew1)|exact HB.out))) : w.heap.size ≤ gb124));have n3_:=Aside0.mk ((by rw [hg];exact (below_size (by repeat (first|(with_reducible first|exact HB.out|apply below_alloc|apply pw_below_drewN|apply below_drew1)|exact HB.out))) : w.heap.size ≤ gb124));clear HB;have HB:=n0_;have BK124:=n1_;have GW124:=n2_;have GE124:=n3_;clear n0_ n1_ n2_ n3_;clear hb hbox hg)|((with_reducible refine gate_dst (N:=2) rfl ?_);refine box_event ?hg (N:=2) ?hd (cs:=#[.int .i64 0,.int .i64 0,.slice none 0 0,.int .u32 0,.int .u32 0]) (t:=32) ?hr ?_;(case hd=>rfl);(case hg=>rfl);(case hr=>first|(go_simp;done)|(go_simp;rfl));intro gb125 hg w33 hbox hb;have n0_:=Aside0.mk (blk_below (g:=gb124) (o:=.cells #[.int .i64 a0_0,.int .i64 a0_1,.slice A0_2 l0_2.length c0_2,.int .u32 a0_3,.int .u32 a0_4] 32 (0,0)) (by (with_reducible repeat (first|refine blk_drewN ?_ _|refine blk_drew ?_|refine blk_alloc ?_ _));exact BK124.out) hb);have n1_:=Aside0.mk (below_step (by repeat (first|(with_reducible first|exact HB.out|apply below_alloc|apply pw_below_drewN|apply below_drew1|refine below_set ?_ GE124.out)|exact HB.out)) hb);have n2_:=Aside0.mk (hbox);have n3_:=Aside0.mk ((by rw [hg];exact (below_size (by repeat (first|(with_reducible first|exact HB.out|apply below_alloc|apply pw_below_drewN|apply below_drew1|refine below_set ?_ GE124.out)|exact HB.out))) : w.heap.size ≤ gb125));have n4_:=Aside0.mk ((by rw [hg];exact (below_size (by repeat (first|(with_reducible first|exact HB.out|apply below_alloc|apply pw_below_drewN|apply below_drew1|refine below_set ?_ GE124.out)|exact HB.out))) : w.heap.size ≤ gb125));have n5_:=Aside0.mk ((by rw [hg];exact Nat.ne_of_lt (blk_lt (g:=gb124) (o:=.cells #[.int .i64 a0_0,.int .i64 a0_1,.slice A0_2 l0_2.length c0_2,.int .u32 a0_3,.int .u32 a0_4] 32 (0,0)) (by (with_reducible repeat (first|refine blk_drewN ?_ _|refine blk_drew ?_|refine blk_alloc ?_ _));exact BK124.out)) : gb124 ≠ gb125));have n6_:=Aside0.mk ((by rw [hg];exact Nat.ne_of_gt (blk_lt (g:=gb124) (o:=.cells #[.int .i64 a0_0,.int .i64 a0_1,.slice A0_2 l0_2.length c0_2,.int .u32 a0_3,.int .u32 a0_4] 32 (0,0)) (by (with_reducible repeat (first|refine blk_drewN ?_ _|refine blk_drew ?_|refine blk_alloc ?_ _));exact BK124.out)) : gb125 ≠ gb124));clear BK124;clear HB;have BK124:=n0_;have HB:=n1_;have BK125:=n2_;have GW125:=n3_;have GE125:=n4_;have NB124_125:=n5_;have NB125_124:=n6_;clear n0_ n1_ n2_ n3_ n4_ n5_ n6_;clear hb hbox hg;have hnb34:=NB124_125.out;have hnc34:=NB125_124.out;have hcz35_0 : w33.cell? ⟨gb124,0,none⟩ = some (.int .i64 a0_0):=(blk_cell BK124.out 0).trans rfl;have hcz35_1 : w33.cell? ⟨gb124,1,none⟩ = some (.int .i64 a0_1):=(blk_cell BK124.out 1).trans rfl;have hcz35_2 : w33.cell? ⟨gb124,2,none⟩ = some (.slice A0_2 l0_2.length c0_2):=(blk_cell BK124.out 2).trans rfl;have hcz35_3 : w33.cell? ⟨gb124,3,none⟩ = some (.int .u32 a0_3):=(blk_cell BK124.out 3).trans rfl;have hcz35_4 : w33.cell? ⟨gb124,4,none⟩ = some (.int .u32 a0_4):=(blk_cell BK124.out 4).trans rfl;have hfz35_0:=blk_frozen BK124.out 0;have hfz35_1:=blk_frozen BK124.out 1;have hfz35_2:=blk_frozen BK124.out 2;have hfz35_3:=blk_frozen BK124.out 3;have hfz35_4:=blk_frozen BK124.out 4)|((with_reducible refine gate_callee (f:=12) rfl ?_);refine goesL_ (some 8) rfl rfl Try.func12 (by kernel_rfl) rfl #[.agg #[.int .i64 a0_0,.int .i64 a0_1,.slice A0_2 l0_2.length c0_2,.int .u32 a0_3,.int .u32 a0_4]] rfl (by (try simp only [List.map_toArray,List.map_cons,List.map_nil]);first|done|rfl|(simp only [List.length_drop,List.length_take];rfl)) ?_;(with_reducible refine (net_Check.calls k a0_0 a0_1 _ _ l0_2 a0_3 a0_4 t126 _ ?side1 ?side2 A2.out).mono ?_);(case side1=>repeat (first|exact (Kd.C_below HR0_2.out HB.out)|(with_reducible refine Kd.C_alloc ?_ _)|(with_reducible refine Kd.C_drewN ?_ _)|(with_reducible refine Kd.C_drew ?_)));(case side2=>exact HC0_2.out);rintro e w36 ⟨rfl,hb⟩;refine ⟨_,rfl,?_⟩;have n0_:=Aside0.mk (blk_below (g:=gb124) (o:=.cells #[.int .i64 a0_0,.int .i64 a0_1,.slice A0_2 l0_2.length c0_2,.int .u32 a0_3,.int .u32 a0_4] 32 (0,0)) (by (with_reducible repeat (first|refine blk_drewN ?_ _|refine blk_drew ?_|refine blk_alloc ?_ _));exact BK124.out) hb);have n1_:=Aside0.mk (blk_below (g:=gb125) (o:=.cells #[.int .i64 0,.int .i64 0,.slice none 0 0,.int .u32 0,.int .u32 0] 32 (0,0)) (by (with_reducible repeat (first|refine blk_drewN ?_ _|refine blk_drew ?_|refine blk_alloc ?_ _));exact BK125.out) hb);have n2_:=Aside0.mk (below_step (by repeat (first|(with_reducible first|exact HB.out|apply below_alloc|apply pw_below_drewN|apply below_drew1|refine below_set ?_ GE124.out|refine below_set ?_ GE125.out)|exact HB.out)) hb);clear BK124;clear BK125;clear HB;have BK124:=n0_;have BK125:=n1_;have HB:=n2_;clear n0_ n1_ n2_;(try clear hb);(try clear hb2);(try clear hk);(try clear hi);have hcz37_0 : w36.cell? ⟨gb125,0,none⟩ = some (.int .i64 0):=(blk_cell BK125.out 0).trans rfl;have hcz37_1 : w36.cell? ⟨gb125,1,none⟩ = some (.int .i64 0):=(blk_cell BK125.out 1).trans rfl;have hcz37_2 : w36.cell? ⟨gb125,2,none⟩ = some (.slice none 0 0):=(blk_cell BK125.out 2).trans rfl;have hcz37_3 : w36.cell? ⟨gb125,3,none⟩ = some (.int .u32 0):=(blk_cell BK125.out 3).trans rfl;have hcz37_4 : w36.cell? ⟨gb125,4,none⟩ = some (.int .u32 0):=(blk_cell BK125.out 4).trans rfl;have hfz37_0:=blk_frozen BK125.out 0;have hfz37_1:=blk_frozen BK125.out 1;have hfz37_2:=blk_frozen BK125.out 2;have hfz37_3:=blk_frozen BK125.out 3;have hfz37_4:=blk_frozen BK125.out 4))
  refine bodyPost_ret (results_ct rfl _ _ gb125 32 #[.int .i64 0,.int .i64 0,.slice none 0 0,.int .u32 0,.int .u32 0] (0,0) _ rfl (by (with_reducible repeat (first|refine blk_drewN ?_ _|refine blk_drew ?_|refine blk_alloc ?_ _));refine blk_put (cs:=#[.int .i64 0,.int .i64 0,.slice none 0 0,.int .u32 0,.int .u32 0]) ?_ 4 _ rfl;(with_reducible repeat (first|refine blk_drewN ?_ _|refine blk_drew ?_|refine blk_alloc ?_ _));refine blk_put (cs:=#[.int .i64 0,.int .i64 0,.slice none 0 0,.int .u32 0,.int .u32 0]) ?_ 3 _ rfl;(with_reducible repeat (first|refine blk_drewN ?_ _|refine blk_drew ?_|refine blk_alloc ?_ _));refine blk_put (cs:=#[.int .i64 0,.int .i64 0,.slice none 0 0,.int .u32 0,.int .u32 0]) ?_ 2 _ rfl;(with_reducible repeat (first|refine blk_drewN ?_ _|refine blk_drew ?_|refine blk_alloc ?_ _));refine blk_put (cs:=#[.int .i64 0,.int .i64 0,.slice none 0 0,.int .u32 0,.int .u32 0]) ?_ 1 _ rfl;(with_reducible repeat (first|refine blk_drewN ?_ _|refine blk_drew ?_|refine blk_alloc ?_ _));refine blk_put (cs:=#[.int .i64 0,.int .i64 0,.slice none 0 0,.int .u32 0,.int .u32 0]) ?_ 0 _ rfl;(with_reducible repeat (first|refine blk_drewN ?_ _|refine blk_drew ?_|refine blk_alloc ?_ _));exact BK125.out) Try.underlying32 rfl (by kernel_rfl)) rfl ?_
  exact ⟨_,by first|rfl|(simp [errW_none,errW_some] <;> rfl)|(simp [*,errW_none,errW_some] <;> rfl),by first|exact Kd.R_nil _ _ _ _ _|exact Kd.N_nil _ _ _ _ _|exact Kd.V_nil _ _ _ _ _|exact Kd.Q_nil _ _ _ _ _|exact Kd.S_nil _ _ _ _ _,by repeat (first|(with_reducible first|exact HB.out|apply below_alloc|apply pw_below_drewN|apply below_drew1|refine below_set ?_ GE124.out|refine below_set ?_ GE125.out)|exact HB.out)⟩
end Go.Proofs.Ytllnipefceonmaa.GA
