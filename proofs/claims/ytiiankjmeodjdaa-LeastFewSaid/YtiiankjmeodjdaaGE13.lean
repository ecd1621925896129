-- Written by ext.py, a program of this session.
import Derived.Test.YtiiankjmeodjdaaGE0
import Derived.Test.YtiiankjmeodjdaaGE8
import Derived.Test.YtiiankjmeodjdaaGE11
import Derived.Test.YtiiankjmeodjdaaGE12
namespace Go.Proofs.Ytiiankjmeodjdaa.GE
open Go.RowKit Go.Proofs.YtiiankjmeodjdaaW.PrintWords Go.Proofs.YtiiankjmeodjdaaW.PrintLast Go.Proofs.YtiiankjmeodjdaaW.PrintMore
attribute [local go_sem] max2_int min2_int max_two min_two max_three min_three max_four min_four cellIs_set   -- for this text's walks alone
set_option linter.unusedVariables false
set_option linter.unusedSimpArgs false
/-! ### least_Same: function 37 -/
mutual
def least_Same.j0 : Nat → Bool → Int → Int → List (List Int) → Int → Int → Int → Int → List (List Int) → Int → Int → Option (Bool × Int)
 | 0,_,_,_,_,_,_,_,_,_,_,_=>none
 | k + 1,x9,x231000,x231001,x231002,x231003,x231004,x232000,x232001,x232002,x232003,x232004=>least_Same.l0 k x9 0 x231000 x231001 x231002 x231003 x231004 x232000 x232001 x232002 x232003 x232004
def least_Same.l0 : Nat → Bool → Int → Int → Int → List (List Int) → Int → Int → Int → Int → List (List Int) → Int → Int → Option (Bool × Int)
 | 0,_,_,_,_,_,_,_,_,_,_,_,_=>none
 | k + 1,x9,x10,x231000,x231001,x231002,x231003,x231004,x232000,x232001,x232002,x232003,x232004=>if x10 < x231000 then (if x9 = true then (if 0 ≤ x10 then (if x10 < (x231002.length : Int) then (if x10 < (x232002.length : Int) then ((slices_Equal_int_int.f k (rd_L1 x231002 x10) (rd_L1 x232002 x10)).bind fun t234=>(least_Same.l0 k t234 (wrap64 (x10 + 1)) x231000 x231001 x231002 x231003 x231004 x232000 x232001 x232002 x232003 x232004)) else (none)) else (none)) else (none)) else (some (x9,0))) else (some (x9,0))
end
def least_Same.f (k : Nat) (a0_0 : Int) (a0_1 : Int) (l0_2 : List (List Int)) (a0_3 : Int) (a0_4 : Int) (a1_0 : Int) (a1_1 : Int) (l1_2 : List (List Int)) (a1_3 : Int) (a1_4 : Int) : Option (Bool × Int):=(least_wrong.f k a0_0 a0_1 l0_2 a0_3 a0_4 a1_0 a1_1 l1_2 a1_3 a1_4).bind fun t215=>(if t215 = 0 then ((least_Small.f k a0_0 a0_1 l0_2 a0_3 a0_4).bind fun bt216=>((least_Small.f k a1_0 a1_1 l1_2 a1_3 a1_4).bind fun bt223=>(if bt216.1 = bt223.1 then (least_Same.j0 k (bt216.2.2.2.2 == bt223.2.2.2.2) bt216.1 bt216.2.1 bt216.2.2.1 bt216.2.2.2.1 bt216.2.2.2.2 bt223.1 bt223.2.1 bt223.2.2.1 bt223.2.2.2.1 bt223.2.2.2.2) else (least_Same.j0 k false bt216.1 bt216.2.1 bt216.2.2.1 bt216.2.2.2.1 bt216.2.2.2.2 bt223.1 bt223.2.1 bt223.2.2.1 bt223.2.2.2.1 bt223.2.2.2.2)))) else (some (false,t215)))
theorem least_Same.mono_l : ∀ k,(∀ y0 y1 y2 y3 y4 y5 y6 y7 y8 y9 y10,LeO (least_Same.j0 k y0 y1 y2 y3 y4 y5 y6 y7 y8 y9 y10) (least_Same.j0 (k + 1) y0 y1 y2 y3 y4 y5 y6 y7 y8 y9 y10)) ∧ (∀ y0 y1 y2 y3 y4 y5 y6 y7 y8 y9 y10 y11,LeO (least_Same.l0 k y0 y1 y2 y3 y4 y5 y6 y7 y8 y9 y10 y11) (least_Same.l0 (k + 1) y0 y1 y2 y3 y4 y5 y6 y7 y8 y9 y10 y11))
 | 0=>⟨fun _ _ _ _ _ _ _ _ _ _ _ r h=>by simp [least_Same.j0] at h,fun _ _ _ _ _ _ _ _ _ _ _ _ r h=>by simp [least_Same.l0] at h⟩
 | k + 1=>by
  obtain ⟨ih0,ih1⟩:=least_Same.mono_l k
  refine ⟨?_,?_⟩
  ·intro y0 y1 y2 y3 y4 y5 y6 y7 y8 y9 y10
   unfold least_Same.j0
   repeat' first
   | (with_reducible exact ih0 _ _ _ _ _ _ _ _ _ _ _)
   | (with_reducible exact ih1 _ _ _ _ _ _ _ _ _ _ _ _)
   | (with_reducible exact least_Small.mono _ _ _ _ _ _)
   | (with_reducible exact least_wrong.mono _ _ _ _ _ _ _ _ _ _ _)
   | (with_reducible exact slices_Equal_int_int.mono _ _ _)
   | (with_reducible exact LeO.refl _)
   | (with_reducible exact LeO.none _)
   | (with_reducible refine LeO.ite ?_ ?_)
   | (with_reducible refine LeO.bind ?_ (fun _=>?_))
   | exact ih0 _ _ _ _ _ _ _ _ _ _ _
   | exact ih1 _ _ _ _ _ _ _ _ _ _ _ _
   | exact least_Small.mono _ _ _ _ _ _
   | exact least_wrong.mono _ _ _ _ _ _ _ _ _ _ _
   | exact slices_Equal_int_int.mono _ _ _
   | exact LeO.none _
   | refine LeO.ite ?_ ?_
   | refine LeO.bind ?_ (fun _=>?_)
  ·intro y0 y1 y2 y3 y4 y5 y6 y7 y8 y9 y10 y11
   unfold least_Same.l0
   repeat' first
   | (with_reducible exact ih0 _ _ _ _ _ _ _ _ _ _ _)
   | (with_reducible exact ih1 _ _ _ _ _ _ _ _ _ _ _ _)
   | (with_reducible exact least_Small.mono _ _ _ _ _ _)
   | (with_reducible exact least_wrong.mono _ _ _ _ _ _ _ _ _ _ _)
   | (with_reducible exact slices_Equal_int_int.mono _ _ _)
   | (with_reducible exact LeO.refl _)
   | (with_reducible exact LeO.none _)
   | (with_reducible refine LeO.ite ?_ ?_)
   | (with_reducible refine LeO.bind ?_ (fun _=>?_))
   | exact ih0 _ _ _ _ _ _ _ _ _ _ _
   | exact ih1 _ _ _ _ _ _ _ _ _ _ _ _
   | exact least_Small.mono _ _ _ _ _ _
   | exact least_wrong.mono _ _ _ _ _ _ _ _ _ _ _
   | exact slices_Equal_int_int.mono _ _ _
   | exact LeO.none _
   | refine LeO.ite ?_ ?_
   | refine LeO.bind ?_ (fun _=>?_)
theorem least_Same.mono : ∀ a0 a1 a2 a3 a4 a5 a6 a7 a8 a9 k,LeO (least_Same.f k a0 a1 a2 a3 a4 a5 a6 a7 a8 a9) (least_Same.f (k + 1) a0 a1 a2 a3 a4 a5 a6 a7 a8 a9):=by
 intro a0 a1 a2 a3 a4 a5 a6 a7 a8 a9 k
 obtain ⟨ih0,ih1⟩:=least_Same.mono_l k
 unfold least_Same.f
 repeat' first
   | (with_reducible exact ih0 _ _ _ _ _ _ _ _ _ _ _)
   | (with_reducible exact ih1 _ _ _ _ _ _ _ _ _ _ _ _)
   | (with_reducible exact least_Small.mono _ _ _ _ _ _)
   | (with_reducible exact least_wrong.mono _ _ _ _ _ _ _ _ _ _ _)
   | (with_reducible exact slices_Equal_int_int.mono _ _ _)
   | (with_reducible exact LeO.refl _)
   | (with_reducible exact LeO.none _)
   | (with_reducible refine LeO.ite ?_ ?_)
   | (with_reducible refine LeO.bind ?_ (fun _=>?_))
   | exact ih0 _ _ _ _ _ _ _ _ _ _ _
   | exact ih1 _ _ _ _ _ _ _ _ _ _ _ _
   | exact least_Small.mono _ _ _ _ _ _
   | exact least_wrong.mono _ _ _ _ _ _ _ _ _ _ _
   | exact slices_Equal_int_int.mono _ _ _
   | exact LeO.none _
   | refine LeO.ite ?_ ?_
   | refine LeO.bind ?_ (fun _=>?_)
def least_Same.T4 : Bool × List (List Nat × List Nat):=(true,[([],[]),([0],[0]),([],[]),([2,1],[2]),([],[]),([],[]),([4,1,3,0,1,4,5],[1,4]),([5,3,6,0,1,2,3,4,5,6],[3,5])])
def least_Same.B4 : List Nat:=[0,1,0,7,0,0,63,127]
theorem least_Same.tab4 : rtab .any (opsOf Try.f37 4) = least_Same.T4:=by kernel_rfl
theorem least_Same.bits4 : waitsOk least_Same.T4.2 least_Same.B4 = true:=by kernel_rfl
def least_Same.T9 : Bool × List (List Nat × List Nat):=(true,[([],[]),([0],[0]),([],[]),([1,2],[1,2]),([3],[3]),([],[]),([5],[5]),([],[]),([6,7],[6,7]),([8],[8]),([4,9],[4,9]),([10,10,0,1,2,3,4,5,6,7,8,9,10],[10])])
def least_Same.B9 : List Nat:=[0,1,0,7,15,0,32,0,224,480,1023,2047]
theorem least_Same.tab9 : rtab .any (opsOf Try.f37 9) = least_Same.T9:=by kernel_rfl
theorem least_Same.bits9 : waitsOk least_Same.T9.2 least_Same.B9 = true:=by kernel_rfl
set_option maxHeartbeats 8000000 in
set_option maxRecDepth 100000 in
theorem least_Same.calls (k : Nat) (a0_0 : Int) (a0_1 : Int) (A0_2 : Option Addr) (c0_2 : Nat) (l0_2 : List (List Int)) (a0_3 : Int) (a0_4 : Int) (a1_0 : Int) (a1_1 : Int) (A1_2 : Option Addr) (c1_2 : Nat) (l1_2 : List (List Int)) (a1_3 : Int) (a1_4 : Int) (r1 : Bool) (r2 : Int) (w : World) (hr0_2 : Kd.C (Kd.slice 3 (Kd.int .i64)) w A0_2 l0_2.length l0_2) (hc0_2 : l0_2.length ≤ c0_2) (hr1_2 : Kd.C (Kd.slice 3 (Kd.int .i64)) w A1_2 l1_2.length l1_2) (hc1_2 : l1_2.length ≤ c1_2) (h : least_Same.f k a0_0 a0_1 l0_2 a0_3 a0_4 a1_0 a1_1 l1_2 a1_3 a1_4 = some (r1,r2)) :
  Calls Try.prog 37 #[.agg #[.int .i64 a0_0,.int .i64 a0_1,.slice A0_2 l0_2.length c0_2,.int .i64 a0_3,.int .u32 a0_4],.agg #[.int .i64 a1_0,.int .i64 a1_1,.slice A1_2 l1_2.length c1_2,.int .i64 a1_3,.int .u32 a1_4]] w fun e w'=>e = .returned (.tuple #[.bool r1,.int .i64 r2]) ∧ Below w.heap.size w w':=by
 have hu37:=Try.underlying37
 have HR0_2:=Aside0.mk hr0_2
 have HC0_2:=Aside0.mk hc0_2
 clear hr0_2 hc0_2
 have HR1_2:=Aside0.mk hr1_2
 have HC1_2:=Aside0.mk hc1_2
 clear hr1_2 hc1_2
 have HB:=Aside0.mk (Below.refl w.heap.size w)
 have H : ((least_wrong.f k a0_0 a0_1 l0_2 a0_3 a0_4 a1_0 a1_1 l1_2 a1_3 a1_4).bind fun t215=>(if t215 = 0 then ((least_Small.f k a0_0 a0_1 l0_2 a0_3 a0_4).bind fun bt216=>((least_Small.f k a1_0 a1_1 l1_2 a1_3 a1_4).bind fun bt223=>(if bt216.1 = bt223.1 then (least_Same.j0 k (bt216.2.2.2.2 == bt223.2.2.2.2) bt216.1 bt216.2.1 bt216.2.2.1 bt216.2.2.2.1 bt216.2.2.2.2 bt223.1 bt223.2.1 bt223.2.2.1 bt223.2.2.2.1 bt223.2.2.2.2) else (least_Same.j0 k false bt216.1 bt216.2.1 bt216.2.2.1 bt216.2.2.2.1 bt216.2.2.2.2 bt223.1 bt223.2.1 bt223.2.2.1 bt223.2.2.2.1 bt223.2.2.2.2)))) else (some (false,t215)))) = some (r1,r2):=h
 clear h
 replace H:=Option.bind_eq_some_iff.mp H
 obtain ⟨t215,A30,H⟩:=H
 replace H : (if t215 = 0 then ((least_Small.f k a0_0 a0_1 l0_2 a0_3 a0_4).bind fun bt216=>((least_Small.f k a1_0 a1_1 l1_2 a1_3 a1_4).bind fun bt223=>(if bt216.1 = bt223.1 then (least_Same.j0 k (bt216.2.2.2.2 == bt223.2.2.2.2) bt216.1 bt216.2.1 bt216.2.2.1 bt216.2.2.2.1 bt216.2.2.2.2 bt223.1 bt223.2.1 bt223.2.2.1 bt223.2.2.2.1 bt223.2.2.2.2) else (least_Same.j0 k false bt216.1 bt216.2.1 bt216.2.2.1 bt216.2.2.2.1 bt216.2.2.2.2 bt223.1 bt223.2.1 bt223.2.2.1 bt223.2.2.2.1 bt223.2.2.2.2)))) else (some (false,t215))) = some (r1,r2):=H
 have A3:=Aside0.mk A30
 clear A30
 by_cases c4 : t215 = 0
 ·rw [if_pos c4] at H
  have c4b0 : (t215 == 0) = true:=beq_iff_eq.mpr c4
  have c4b1 : (t215 != 0) = false:=bne_eq_false_iff_eq.mpr c4
  clear c4
  replace H:=Option.bind_eq_some_iff.mp H
  obtain ⟨⟨t216,t217,t218,t221,t222⟩,A50,H⟩:=H
  replace H : ((least_Small.f k a1_0 a1_1 l1_2 a1_3 a1_4).bind fun bt223=>(if t216 = bt223.1 then (least_Same.j0 k (t222 == bt223.2.2.2.2) t216 t217 t218 t221 t222 bt223.1 bt223.2.1 bt223.2.2.1 bt223.2.2.2.1 bt223.2.2.2.2) else (least_Same.j0 k false t216 t217 t218 t221 t222 bt223.1 bt223.2.1 bt223.2.2.1 bt223.2.2.2.1 bt223.2.2.2.2))) = some (r1,r2):=H
  have A5:=Aside0.mk A50
  clear A50
  replace H:=Option.bind_eq_some_iff.mp H
  obtain ⟨⟨t223,t224,t225,t228,t229⟩,A60,H⟩:=H
  replace H : (if t216 = t223 then (least_Same.j0 k (t222 == t229) t216 t217 t218 t221 t222 t223 t224 t225 t228 t229) else (least_Same.j0 k false t216 t217 t218 t221 t222 t223 t224 t225 t228 t229)) = some (r1,r2):=H
  have A6:=Aside0.mk A60
  clear A60
  have HC7:=Aside0.mk H
  clear H
  go_enter Try.func37,Try.ntmps37
  try go_wp2_with (first|((with_reducible refine gate_dst (N:=2) rfl ?_);refine box_event ?hg (N:=2) ?hd (cs:=#[.int .i64 a0_0,.int .i64 a0_1,.slice A0_2 l0_2.length c0_2,.int .i64 a0_3,.int .u32 a0_4]) (t:=37) ?hr ?_;(case hd=>rfl);(case hg=>rfl);(case hr=>first|(go_simp;done)|(go_simp;rfl));intro gb213 hg w8 hbox hb;have n0_:=Aside0.mk (below_step (by repeat (first|(with_reducible first|exact HB.out|apply below_alloc|apply pw_below_drewN|apply below_drew1)|exact HB.out)) hb);have n1_:=Aside0.mk (hbox);have n2_:=Aside0.mk ((by rw [hg];exact (below_size (by repeat (first|(with_reducible first|exact HB.out|apply below_alloc|apply pw_below_drewN|apply below_drew1)|exact HB.out))) : w.heap.size ≤ gb213));have n3_:=Aside0.mk ((by rw [hg];exact (below_size (by repeat (first|(with_reducible first|exact HB.out|apply below_alloc|apply pw_below_drewN|apply below_drew1)|exact HB.out))) : w.heap.size ≤ gb213));clear HB;have HB:=n0_;have BK213:=n1_;have GW213:=n2_;have GE213:=n3_;clear n0_ n1_ n2_ n3_;clear hb hbox hg)|((with_reducible refine gate_dst (N:=3) rfl ?_);refine box_event ?hg (N:=3) ?hd (cs:=#[.int .i64 a1_0,.int .i64 a1_1,.slice A1_2 l1_2.length c1_2,.int .i64 a1_3,.int .u32 a1_4]) (t:=37) ?hr ?_;(case hd=>rfl);(case hg=>rfl);(case hr=>first|(go_simp;done)|(go_simp;rfl));intro gb214 hg w9 hbox hb;have n0_:=Aside0.mk (blk_below (g:=gb213) (o:=.cells #[.int .i64 a0_0,.int .i64 a0_1,.slice A0_2 l0_2.length c0_2,.int .i64 a0_3,.int .u32 a0_4] 37 (0,0)) (by (with_reducible repeat (first|refine blk_drewN ?_ _|refine blk_drew ?_|refine blk_alloc ?_ _));exact BK213.out) hb);have n1_:=Aside0.mk (below_step (by repeat (first|(with_reducible first|exact HB.out|apply below_alloc|apply pw_below_drewN|apply below_drew1|refine below_set ?_ GE213.out)|exact HB.out)) hb);have n2_:=Aside0.mk (hbox);have n3_:=Aside0.mk ((by rw [hg];exact (below_size (by repeat (first|(with_reducible first|exact HB.out|apply below_alloc|apply pw_below_drewN|apply below_drew1|refine below_set ?_ GE213.out)|exact HB.out))) : w.heap.size ≤ gb214));have n4_:=Aside0.mk ((by rw [hg];exact (below_size (by repeat (first|(with_reducible first|exact HB.out|apply below_alloc|apply pw_below_drewN|apply below_drew1|refine below_set ?_ GE213.out)|exact HB.out))) : w.heap.size ≤ gb214));have n5_:=Aside0.mk ((by rw [hg];exact Nat.ne_of_lt (blk_lt (g:=gb213) (o:=.cells #[.int .i64 a0_0,.int .i64 a0_1,.slice A0_2 l0_2.length c0_2,.int .i64 a0_3,.int .u32 a0_4] 37 (0,0)) (by (with_reducible repeat (first|refine blk_drewN ?_ _|refine blk_drew ?_|refine blk_alloc ?_ _));exact BK213.out)) : gb213 ≠ gb214));have n6_:=Aside0.mk ((by rw [hg];exact Nat.ne_of_gt (blk_lt (g:=gb213) (o:=.cells #[.int .i64 a0_0,.int .i64 a0_1,.slice A0_2 l0_2.length c0_2,.int .i64 a0_3,.int .u32 a0_4] 37 (0,0)) (by (with_reducible repeat (first|refine blk_drewN ?_ _|refine blk_drew ?_|refine blk_alloc ?_ _));exact BK213.out)) : gb214 ≠ gb213));clear BK213;clear HB;have BK213:=n0_;have HB:=n1_;have BK214:=n2_;have GW214:=n3_;have GE214:=n4_;have NB213_214:=n5_;have NB214_213:=n6_;clear n0_ n1_ n2_ n3_ n4_ n5_ n6_;clear hb hbox hg;have hnb10:=NB213_214.out;have hnc10:=NB214_213.out;have hcz11_0 : w9.cell? ⟨gb213,0,none⟩ = some (.int .i64 a0_0):=(blk_cell BK213.out 0).trans rfl;have hcz11_1 : w9.cell? ⟨gb213,1,none⟩ = some (.int .i64 a0_1):=(blk_cell BK213.out 1).trans rfl;have hcz11_2 : w9.cell? ⟨gb213,2,none⟩ = some (.slice A0_2 l0_2.length c0_2):=(blk_cell BK213.out 2).trans rfl;have hcz11_3 : w9.cell? ⟨gb213,3,none⟩ = some (.int .i64 a0_3):=(blk_cell BK213.out 3).trans rfl;have hcz11_4 : w9.cell? ⟨gb213,4,none⟩ = some (.int .u32 a0_4):=(blk_cell BK213.out 4).trans rfl;have hfz11_0:=blk_frozen BK213.out 0;have hfz11_1:=blk_frozen BK213.out 1;have hfz11_2:=blk_frozen BK213.out 2;have hfz11_3:=blk_frozen BK213.out 3;have hfz11_4:=blk_frozen BK213.out 4;have hcz12_0 : w9.cell? ⟨gb214,0,none⟩ = some (.int .i64 a1_0):=(blk_cell BK214.out 0).trans rfl;have hcz12_1 : w9.cell? ⟨gb214,1,none⟩ = some (.int .i64 a1_1):=(blk_cell BK214.out 1).trans rfl;have hcz12_2 : w9.cell? ⟨gb214,2,none⟩ = some (.slice A1_2 l1_2.length c1_2):=(blk_cell BK214.out 2).trans rfl;have hcz12_3 : w9.cell? ⟨gb214,3,none⟩ = some (.int .i64 a1_3):=(blk_cell BK214.out 3).trans rfl;have hcz12_4 : w9.cell? ⟨gb214,4,none⟩ = some (.int .u32 a1_4):=(blk_cell BK214.out 4).trans rfl;have hfz12_0:=blk_frozen BK214.out 0;have hfz12_1:=blk_frozen BK214.out 1;have hfz12_2:=blk_frozen BK214.out 2;have hfz12_3:=blk_frozen BK214.out 3;have hfz12_4:=blk_frozen BK214.out 4)|((with_reducible refine gate_callee (f:=55) rfl ?_);refine goesL_ (some 13) rfl rfl Try.func55 (by kernel_rfl) rfl #[.agg #[.int .i64 a0_0,.int .i64 a0_1,.slice A0_2 l0_2.length c0_2,.int .i64 a0_3,.int .u32 a0_4],.agg #[.int .i64 a1_0,.int .i64 a1_1,.slice A1_2 l1_2.length c1_2,.int .i64 a1_3,.int .u32 a1_4]] rfl (by (try simp only [List.map_toArray,List.map_cons,List.map_nil]);first|done|rfl|(simp only [List.length_drop,List.length_take];rfl)) ?_;(with_reducible refine (least_wrong.calls k a0_0 a0_1 _ _ l0_2 a0_3 a0_4 a1_0 a1_1 _ _ l1_2 a1_3 a1_4 t215 _ ?side1 ?side2 ?side3 ?side4 A3.out).mono ?_);(case side1=>repeat (first|exact (Kd.C_below HR0_2.out HB.out)|(with_reducible refine Kd.C_alloc ?_ _)|(with_reducible refine Kd.C_drewN ?_ _)|(with_reducible refine Kd.C_drew ?_)));(case side2=>exact HC0_2.out);(case side3=>repeat (first|exact (Kd.C_below HR1_2.out HB.out)|(with_reducible refine Kd.C_alloc ?_ _)|(with_reducible refine Kd.C_drewN ?_ _)|(with_reducible refine Kd.C_drew ?_)));(case side4=>exact HC1_2.out);rintro e w13 ⟨rfl,hb⟩;refine ⟨_,rfl,?_⟩;have n0_:=Aside0.mk (blk_below (g:=gb213) (o:=.cells #[.int .i64 a0_0,.int .i64 a0_1,.slice A0_2 l0_2.length c0_2,.int .i64 a0_3,.int .u32 a0_4] 37 (0,0)) (by (with_reducible repeat (first|refine blk_drewN ?_ _|refine blk_drew ?_|refine blk_alloc ?_ _));exact BK213.out) hb);have n1_:=Aside0.mk (blk_below (g:=gb214) (o:=.cells #[.int .i64 a1_0,.int .i64 a1_1,.slice A1_2 l1_2.length c1_2,.int .i64 a1_3,.int .u32 a1_4] 37 (0,0)) (by (with_reducible repeat (first|refine blk_drewN ?_ _|refine blk_drew ?_|refine blk_alloc ?_ _));exact BK214.out) hb);have n2_:=Aside0.mk (below_step (by repeat (first|(with_reducible first|exact HB.out|apply below_alloc|apply pw_below_drewN|apply below_drew1|refine below_set ?_ GE213.out|refine below_set ?_ GE214.out)|exact HB.out)) hb);clear BK213;clear BK214;clear HB;have BK213:=n0_;have BK214:=n1_;have HB:=n2_;clear n0_ n1_ n2_;(try clear hb);(try clear hb2);(try clear hk);(try clear hi)))
  have n0_:=Aside0.mk (blk_drew BK213.out)
  have n1_:=Aside0.mk (blk_drew BK214.out)
  have n2_:=Aside0.mk (below_drew1 HB.out)
  clear BK213
  clear BK214
  clear HB
  have BK213:=n0_
  have BK214:=n1_
  have HB:=n2_
  clear n0_ n1_ n2_
  refine start_ (n:=8) (S:=fun w'=>w'.cell? ⟨gb213,0,none⟩ = some (.int .i64 a0_0) ∧ w'.cell? ⟨gb213,1,none⟩ = some (.int .i64 a0_1) ∧ w'.cell? ⟨gb213,2,none⟩ = some (.slice A0_2 l0_2.length c0_2) ∧ w'.cell? ⟨gb213,3,none⟩ = some (.int .i64 a0_3) ∧ w'.cell? ⟨gb213,4,none⟩ = some (.int .u32 a0_4) ∧ w'.cell? ⟨gb214,0,none⟩ = some (.int .i64 a1_0) ∧ w'.cell? ⟨gb214,1,none⟩ = some (.int .i64 a1_1) ∧ w'.cell? ⟨gb214,2,none⟩ = some (.slice A1_2 l1_2.length c1_2) ∧ w'.cell? ⟨gb214,3,none⟩ = some (.int .i64 a1_3) ∧ w'.cell? ⟨gb214,4,none⟩ = some (.int .u32 a1_4)) (ds:=[]) #[false,false,false,false,false,false,false,false] (by kernel_rfl) rfl rfl ⟨(blk_cell BK213.out 0).trans rfl,(blk_cell BK213.out 1).trans rfl,(blk_cell BK213.out 2).trans rfl,(blk_cell BK213.out 3).trans rfl,(blk_cell BK213.out 4).trans rfl,(blk_cell BK214.out 0).trans rfl,(blk_cell BK214.out 1).trans rfl,(blk_cell BK214.out 2).trans rfl,(blk_cell BK214.out 3).trans rfl,(blk_cell BK214.out 4).trans rfl⟩ (fun hHeld=>?_);refine with_tabW least_Same.tab4 least_Same.bits4 (fun HT_ HW_=>?_)
  generalize w13.drew = w14 at BK213 BK214 HB hHeld ⊢
  refine take_ (i:=0) (N:=some 17) (v:=?_) (a':=?_) #[true,false,false,false,false,false,false,false] rfl rfl (take_ofW HT_.out HW_.out (by kernel_rfl)) (fun _ _ _ h=>h) (Or.inl ⟨by rfl,?_⟩) hHeld ?_ ?_
  rotate_left
  ·rintro w' ⟨s0,s1,s2,s3,s4,s5,s6,s7,s8,s9⟩
   go_simp
   with_reducible rfl
  rotate_left
  ·simp only [Act.put,List.setIfInBounds_toArray,List.set_cons_zero,List.set_cons_succ,i64_w,i32_w]
   rfl
  refine take_ (i:=2) (N:=some 19) (v:=?_) (a':=?_) #[true,false,true,false,false,false,false,false] rfl rfl (take_ofW HT_.out HW_.out (by kernel_rfl)) (fun _ _ _ h=>h) (Or.inl ⟨by rfl,?_⟩) hHeld ?_ ?_
  rotate_left
  ·rintro w' ⟨s0,s1,s2,s3,s4,s5,s6,s7,s8,s9⟩
   go_simp
   with_reducible rfl
  rotate_left
  ·simp only [Act.put,List.setIfInBounds_toArray,List.set_cons_zero,List.set_cons_succ,i64_w,i32_w]
   rfl
  refine join_ (σ:=Value × Value × Nat × Nat) 2 #[true,true,true,true,true,true,false,false] (fun s_=>[(18,.agg #[.int .i64 t216,.int .i64 t217,s_.1,.int .i64 t221,.int .u32 t222]),(20,.agg #[.int .i64 t223,.int .i64 t224,s_.2.1,.int .i64 t228,.int .u32 t229]),(7,.pointer (some ⟨s_.2.2.1,0,none⟩)),(8,.pointer (some ⟨s_.2.2.2,0,none⟩))]) (fun s_ w'=>(w'.cell? ⟨gb213,0,none⟩ = some (.int .i64 a0_0) ∧ w'.cell? ⟨gb213,1,none⟩ = some (.int .i64 a0_1) ∧ w'.cell? ⟨gb213,2,none⟩ = some (.slice A0_2 l0_2.length c0_2) ∧ w'.cell? ⟨gb213,3,none⟩ = some (.int .i64 a0_3) ∧ w'.cell? ⟨gb213,4,none⟩ = some (.int .u32 a0_4) ∧ w'.cell? ⟨gb214,0,none⟩ = some (.int .i64 a1_0) ∧ w'.cell? ⟨gb214,1,none⟩ = some (.int .i64 a1_1) ∧ w'.cell? ⟨gb214,2,none⟩ = some (.slice A1_2 l1_2.length c1_2) ∧ w'.cell? ⟨gb214,3,none⟩ = some (.int .i64 a1_3) ∧ w'.cell? ⟨gb214,4,none⟩ = some (.int .u32 a1_4)) ∧ (Kd.S (Kd.slice 3 (Kd.int .i64)) 28 w' w.heap.size (fun k_=>some k_ ≠ (s_.2.1 : Value).ownBlock) s_.1 t218) ∧ (Kd.S (Kd.slice 3 (Kd.int .i64)) 28 w' w.heap.size (fun k_=>some k_ ≠ (s_.1 : Value).ownBlock) s_.2.1 t225) ∧ (w'.heap[gb213]? = some (.cells #[.int .i64 a0_0,.int .i64 a0_1,.slice A0_2 l0_2.length c0_2,.int .i64 a0_3,.int .u32 a0_4] 37 (0,0))) ∧ (w'.heap[gb214]? = some (.cells #[.int .i64 a1_0,.int .i64 a1_1,.slice A1_2 l1_2.length c1_2,.int .i64 a1_3,.int .u32 a1_4] 37 (0,0))) ∧ (w'.heap[s_.2.2.1]? = some (.cells #[.int .i64 0,.int .i64 0,.slice none 0 0,.int .i64 0,.int .u32 0] 37 (0,0))) ∧ (w'.heap[s_.2.2.2]? = some (.cells #[.int .i64 0,.int .i64 0,.slice none 0 0,.int .i64 0,.int .u32 0] 37 (0,0))) ∧ (w.heap.size ≤ s_.2.2.1) ∧ (w.heap.size ≤ s_.2.2.1) ∧ (gb213 ≠ s_.2.2.1) ∧ (s_.2.2.1 ≠ gb213) ∧ (gb214 ≠ s_.2.2.1) ∧ (s_.2.2.1 ≠ gb214) ∧ (s_.2.2.2 ≠ s_.2.2.1) ∧ (s_.2.2.1 ≠ s_.2.2.2) ∧ (w.heap.size ≤ s_.2.2.2) ∧ (w.heap.size ≤ s_.2.2.2) ∧ (gb213 ≠ s_.2.2.2) ∧ (s_.2.2.2 ≠ gb213) ∧ (gb214 ≠ s_.2.2.2) ∧ (s_.2.2.2 ≠ gb214) ∧ (Below w.heap.size w w')) ?_ ?_
  rotate_left
  ·intro hJ1_3_4_5
   refine join_ (σ:=Value × Value × Nat) 3 #[true,true,true,true,true,false,false,false] (fun s_=>[(18,.agg #[.int .i64 t216,.int .i64 t217,s_.1,.int .i64 t221,.int .u32 t222]),(20,.agg #[.int .i64 t223,.int .i64 t224,s_.2.1,.int .i64 t228,.int .u32 t229]),(7,.pointer (some ⟨s_.2.2,0,none⟩))]) (fun s_ w'=>(w'.cell? ⟨gb213,0,none⟩ = some (.int .i64 a0_0) ∧ w'.cell? ⟨gb213,1,none⟩ = some (.int .i64 a0_1) ∧ w'.cell? ⟨gb213,2,none⟩ = some (.slice A0_2 l0_2.length c0_2) ∧ w'.cell? ⟨gb213,3,none⟩ = some (.int .i64 a0_3) ∧ w'.cell? ⟨gb213,4,none⟩ = some (.int .u32 a0_4) ∧ w'.cell? ⟨gb214,0,none⟩ = some (.int .i64 a1_0) ∧ w'.cell? ⟨gb214,1,none⟩ = some (.int .i64 a1_1) ∧ w'.cell? ⟨gb214,2,none⟩ = some (.slice A1_2 l1_2.length c1_2) ∧ w'.cell? ⟨gb214,3,none⟩ = some (.int .i64 a1_3) ∧ w'.cell? ⟨gb214,4,none⟩ = some (.int .u32 a1_4)) ∧ (Kd.S (Kd.slice 3 (Kd.int .i64)) 28 w' w.heap.size (fun k_=>some k_ ≠ (s_.2.1 : Value).ownBlock) s_.1 t218) ∧ (Kd.S (Kd.slice 3 (Kd.int .i64)) 28 w' w.heap.size (fun k_=>some k_ ≠ (s_.1 : Value).ownBlock) s_.2.1 t225) ∧ (w'.heap[gb213]? = some (.cells #[.int .i64 a0_0,.int .i64 a0_1,.slice A0_2 l0_2.length c0_2,.int .i64 a0_3,.int .u32 a0_4] 37 (0,0))) ∧ (w'.heap[gb214]? = some (.cells #[.int .i64 a1_0,.int .i64 a1_1,.slice A1_2 l1_2.length c1_2,.int .i64 a1_3,.int .u32 a1_4] 37 (0,0))) ∧ (w'.heap[s_.2.2]? = some (.cells #[.int .i64 0,.int .i64 0,.slice none 0 0,.int .i64 0,.int .u32 0] 37 (0,0))) ∧ (w.heap.size ≤ s_.2.2) ∧ (w.heap.size ≤ s_.2.2) ∧ (gb213 ≠ s_.2.2) ∧ (s_.2.2 ≠ gb213) ∧ (gb214 ≠ s_.2.2) ∧ (s_.2.2 ≠ gb214) ∧ (Below w.heap.size w w')) ?_ ?_
   rotate_left
   ·intro hJ1_3_4
    refine join_ (σ:=Value × Value × Nat) 3 #[true,true,true,true,false,true,false,false] (fun s_=>[(18,.agg #[.int .i64 t216,.int .i64 t217,s_.1,.int .i64 t221,.int .u32 t222]),(20,.agg #[.int .i64 t223,.int .i64 t224,s_.2.1,.int .i64 t228,.int .u32 t229]),(8,.pointer (some ⟨s_.2.2,0,none⟩))]) (fun s_ w'=>(w'.cell? ⟨gb213,0,none⟩ = some (.int .i64 a0_0) ∧ w'.cell? ⟨gb213,1,none⟩ = some (.int .i64 a0_1) ∧ w'.cell? ⟨gb213,2,none⟩ = some (.slice A0_2 l0_2.length c0_2) ∧ w'.cell? ⟨gb213,3,none⟩ = some (.int .i64 a0_3) ∧ w'.cell? ⟨gb213,4,none⟩ = some (.int .u32 a0_4) ∧ w'.cell? ⟨gb214,0,none⟩ = some (.int .i64 a1_0) ∧ w'.cell? ⟨gb214,1,none⟩ = some (.int .i64 a1_1) ∧ w'.cell? ⟨gb214,2,none⟩ = some (.slice A1_2 l1_2.length c1_2) ∧ w'.cell? ⟨gb214,3,none⟩ = some (.int .i64 a1_3) ∧ w'.cell? ⟨gb214,4,none⟩ = some (.int .u32 a1_4)) ∧ (Kd.S (Kd.slice 3 (Kd.int .i64)) 28 w' w.heap.size (fun k_=>some k_ ≠ (s_.2.1 : Value).ownBlock) s_.1 t218) ∧ (Kd.S (Kd.slice 3 (Kd.int .i64)) 28 w' w.heap.size (fun k_=>some k_ ≠ (s_.1 : Value).ownBlock) s_.2.1 t225) ∧ (w'.heap[gb213]? = some (.cells #[.int .i64 a0_0,.int .i64 a0_1,.slice A0_2 l0_2.length c0_2,.int .i64 a0_3,.int .u32 a0_4] 37 (0,0))) ∧ (w'.heap[gb214]? = some (.cells #[.int .i64 a1_0,.int .i64 a1_1,.slice A1_2 l1_2.length c1_2,.int .i64 a1_3,.int .u32 a1_4] 37 (0,0))) ∧ (w'.heap[s_.2.2]? = some (.cells #[.int .i64 0,.int .i64 0,.slice none 0 0,.int .i64 0,.int .u32 0] 37 (0,0))) ∧ (w.heap.size ≤ s_.2.2) ∧ (w.heap.size ≤ s_.2.2) ∧ (gb213 ≠ s_.2.2) ∧ (s_.2.2 ≠ gb213) ∧ (gb214 ≠ s_.2.2) ∧ (s_.2.2 ≠ gb214) ∧ (Below w.heap.size w w')) ?_ ?_
    rotate_left
    ·intro hJ1_3_5
     refine join_ (σ:=Value × Nat × Nat) 3 #[true,true,true,false,true,true,false,false] (fun s_=>[(18,.agg #[.int .i64 t216,.int .i64 t217,s_.1,.int .i64 t221,.int .u32 t222]),(7,.pointer (some ⟨s_.2.1,0,none⟩)),(8,.pointer (some ⟨s_.2.2,0,none⟩))]) (fun s_ w'=>(w'.cell? ⟨gb213,0,none⟩ = some (.int .i64 a0_0) ∧ w'.cell? ⟨gb213,1,none⟩ = some (.int .i64 a0_1) ∧ w'.cell? ⟨gb213,2,none⟩ = some (.slice A0_2 l0_2.length c0_2) ∧ w'.cell? ⟨gb213,3,none⟩ = some (.int .i64 a0_3) ∧ w'.cell? ⟨gb213,4,none⟩ = some (.int .u32 a0_4) ∧ w'.cell? ⟨gb214,0,none⟩ = some (.int .i64 a1_0) ∧ w'.cell? ⟨gb214,1,none⟩ = some (.int .i64 a1_1) ∧ w'.cell? ⟨gb214,2,none⟩ = some (.slice A1_2 l1_2.length c1_2) ∧ w'.cell? ⟨gb214,3,none⟩ = some (.int .i64 a1_3) ∧ w'.cell? ⟨gb214,4,none⟩ = some (.int .u32 a1_4)) ∧ (Kd.S (Kd.slice 3 (Kd.int .i64)) 28 w' w.heap.size (fun _=>True) s_.1 t218) ∧ (w'.heap[gb213]? = some (.cells #[.int .i64 a0_0,.int .i64 a0_1,.slice A0_2 l0_2.length c0_2,.int .i64 a0_3,.int .u32 a0_4] 37 (0,0))) ∧ (w'.heap[gb214]? = some (.cells #[.int .i64 a1_0,.int .i64 a1_1,.slice A1_2 l1_2.length c1_2,.int .i64 a1_3,.int .u32 a1_4] 37 (0,0))) ∧ (w'.heap[s_.2.1]? = some (.cells #[.int .i64 0,.int .i64 0,.slice none 0 0,.int .i64 0,.int .u32 0] 37 (0,0))) ∧ (w'.heap[s_.2.2]? = some (.cells #[.int .i64 0,.int .i64 0,.slice none 0 0,.int .i64 0,.int .u32 0] 37 (0,0))) ∧ (w.heap.size ≤ s_.2.1) ∧ (w.heap.size ≤ s_.2.1) ∧ (gb213 ≠ s_.2.1) ∧ (s_.2.1 ≠ gb213) ∧ (gb214 ≠ s_.2.1) ∧ (s_.2.1 ≠ gb214) ∧ (s_.2.2 ≠ s_.2.1) ∧ (s_.2.1 ≠ s_.2.2) ∧ (w.heap.size ≤ s_.2.2) ∧ (w.heap.size ≤ s_.2.2) ∧ (gb213 ≠ s_.2.2) ∧ (s_.2.2 ≠ gb213) ∧ (gb214 ≠ s_.2.2) ∧ (s_.2.2 ≠ gb214) ∧ (Below w.heap.size w w')) ?_ ?_
     rotate_left
     ·intro hJ1_4_5
      refine join_ (σ:=Value × Value) 4 #[true,true,true,true,false,false,false,false] (fun s_=>[(18,.agg #[.int .i64 t216,.int .i64 t217,s_.1,.int .i64 t221,.int .u32 t222]),(20,.agg #[.int .i64 t223,.int .i64 t224,s_.2,.int .i64 t228,.int .u32 t229])]) (fun s_ w'=>(w'.cell? ⟨gb213,0,none⟩ = some (.int .i64 a0_0) ∧ w'.cell? ⟨gb213,1,none⟩ = some (.int .i64 a0_1) ∧ w'.cell? ⟨gb213,2,none⟩ = some (.slice A0_2 l0_2.length c0_2) ∧ w'.cell? ⟨gb213,3,none⟩ = some (.int .i64 a0_3) ∧ w'.cell? ⟨gb213,4,none⟩ = some (.int .u32 a0_4) ∧ w'.cell? ⟨gb214,0,none⟩ = some (.int .i64 a1_0) ∧ w'.cell? ⟨gb214,1,none⟩ = some (.int .i64 a1_1) ∧ w'.cell? ⟨gb214,2,none⟩ = some (.slice A1_2 l1_2.length c1_2) ∧ w'.cell? ⟨gb214,3,none⟩ = some (.int .i64 a1_3) ∧ w'.cell? ⟨gb214,4,none⟩ = some (.int .u32 a1_4)) ∧ (Kd.S (Kd.slice 3 (Kd.int .i64)) 28 w' w.heap.size (fun k_=>some k_ ≠ (s_.2 : Value).ownBlock) s_.1 t218) ∧ (Kd.S (Kd.slice 3 (Kd.int .i64)) 28 w' w.heap.size (fun k_=>some k_ ≠ (s_.1 : Value).ownBlock) s_.2 t225) ∧ (w'.heap[gb213]? = some (.cells #[.int .i64 a0_0,.int .i64 a0_1,.slice A0_2 l0_2.length c0_2,.int .i64 a0_3,.int .u32 a0_4] 37 (0,0))) ∧ (w'.heap[gb214]? = some (.cells #[.int .i64 a1_0,.int .i64 a1_1,.slice A1_2 l1_2.length c1_2,.int .i64 a1_3,.int .u32 a1_4] 37 (0,0))) ∧ (Below w.heap.size w w')) ?_ ?_
      rotate_left
      ·intro hJ1_3
       refine join_ (σ:=Value × Nat) 4 #[true,true,true,false,true,false,false,false] (fun s_=>[(18,.agg #[.int .i64 t216,.int .i64 t217,s_.1,.int .i64 t221,.int .u32 t222]),(7,.pointer (some ⟨s_.2,0,none⟩))]) (fun s_ w'=>(w'.cell? ⟨gb213,0,none⟩ = some (.int .i64 a0_0) ∧ w'.cell? ⟨gb213,1,none⟩ = some (.int .i64 a0_1) ∧ w'.cell? ⟨gb213,2,none⟩ = some (.slice A0_2 l0_2.length c0_2) ∧ w'.cell? ⟨gb213,3,none⟩ = some (.int .i64 a0_3) ∧ w'.cell? ⟨gb213,4,none⟩ = some (.int .u32 a0_4) ∧ w'.cell? ⟨gb214,0,none⟩ = some (.int .i64 a1_0) ∧ w'.cell? ⟨gb214,1,none⟩ = some (.int .i64 a1_1) ∧ w'.cell? ⟨gb214,2,none⟩ = some (.slice A1_2 l1_2.length c1_2) ∧ w'.cell? ⟨gb214,3,none⟩ = some (.int .i64 a1_3) ∧ w'.cell? ⟨gb214,4,none⟩ = some (.int .u32 a1_4)) ∧ (Kd.S (Kd.slice 3 (Kd.int .i64)) 28 w' w.heap.size (fun _=>True) s_.1 t218) ∧ (w'.heap[gb213]? = some (.cells #[.int .i64 a0_0,.int .i64 a0_1,.slice A0_2 l0_2.length c0_2,.int .i64 a0_3,.int .u32 a0_4] 37 (0,0))) ∧ (w'.heap[gb214]? = some (.cells #[.int .i64 a1_0,.int .i64 a1_1,.slice A1_2 l1_2.length c1_2,.int .i64 a1_3,.int .u32 a1_4] 37 (0,0))) ∧ (w'.heap[s_.2]? = some (.cells #[.int .i64 0,.int .i64 0,.slice none 0 0,.int .i64 0,.int .u32 0] 37 (0,0))) ∧ (w.heap.size ≤ s_.2) ∧ (w.heap.size ≤ s_.2) ∧ (gb213 ≠ s_.2) ∧ (s_.2 ≠ gb213) ∧ (gb214 ≠ s_.2) ∧ (s_.2 ≠ gb214) ∧ (Below w.heap.size w w')) ?_ ?_
       rotate_left
       ·intro hJ1_4
        refine join_ (σ:=Value × Nat) 4 #[true,true,true,false,false,true,false,false] (fun s_=>[(18,.agg #[.int .i64 t216,.int .i64 t217,s_.1,.int .i64 t221,.int .u32 t222]),(8,.pointer (some ⟨s_.2,0,none⟩))]) (fun s_ w'=>(w'.cell? ⟨gb213,0,none⟩ = some (.int .i64 a0_0) ∧ w'.cell? ⟨gb213,1,none⟩ = some (.int .i64 a0_1) ∧ w'.cell? ⟨gb213,2,none⟩ = some (.slice A0_2 l0_2.length c0_2) ∧ w'.cell? ⟨gb213,3,none⟩ = some (.int .i64 a0_3) ∧ w'.cell? ⟨gb213,4,none⟩ = some (.int .u32 a0_4) ∧ w'.cell? ⟨gb214,0,none⟩ = some (.int .i64 a1_0) ∧ w'.cell? ⟨gb214,1,none⟩ = some (.int .i64 a1_1) ∧ w'.cell? ⟨gb214,2,none⟩ = some (.slice A1_2 l1_2.length c1_2) ∧ w'.cell? ⟨gb214,3,none⟩ = some (.int .i64 a1_3) ∧ w'.cell? ⟨gb214,4,none⟩ = some (.int .u32 a1_4)) ∧ (Kd.S (Kd.slice 3 (Kd.int .i64)) 28 w' w.heap.size (fun _=>True) s_.1 t218) ∧ (w'.heap[gb213]? = some (.cells #[.int .i64 a0_0,.int .i64 a0_1,.slice A0_2 l0_2.length c0_2,.int .i64 a0_3,.int .u32 a0_4] 37 (0,0))) ∧ (w'.heap[gb214]? = some (.cells #[.int .i64 a1_0,.int .i64 a1_1,.slice A1_2 l1_2.length c1_2,.int .i64 a1_3,.int .u32 a1_4] 37 (0,0))) ∧ (w'.heap[s_.2]? = some (.cells #[.int .i64 0,.int .i64 0,.slice none 0 0,.int .i64 0,.int .u32 0] 37 (0,0))) ∧ (w.heap.size ≤ s_.2) ∧ (w.heap.size ≤ s_.2) ∧ (gb213 ≠ s_.2) ∧ (s_.2 ≠ gb213) ∧ (gb214 ≠ s_.2) ∧ (s_.2 ≠ gb214) ∧ (Below w.heap.size w w')) ?_ ?_
        rotate_left
        ·intro hJ1_5
         refine join_ (σ:=Nat × Nat) 4 #[true,false,true,false,true,true,false,false] (fun s_=>[(7,.pointer (some ⟨s_.1,0,none⟩)),(8,.pointer (some ⟨s_.2,0,none⟩))]) (fun s_ w'=>(w'.cell? ⟨gb213,0,none⟩ = some (.int .i64 a0_0) ∧ w'.cell? ⟨gb213,1,none⟩ = some (.int .i64 a0_1) ∧ w'.cell? ⟨gb213,2,none⟩ = some (.slice A0_2 l0_2.length c0_2) ∧ w'.cell? ⟨gb213,3,none⟩ = some (.int .i64 a0_3) ∧ w'.cell? ⟨gb213,4,none⟩ = some (.int .u32 a0_4) ∧ w'.cell? ⟨gb214,0,none⟩ = some (.int .i64 a1_0) ∧ w'.cell? ⟨gb214,1,none⟩ = some (.int .i64 a1_1) ∧ w'.cell? ⟨gb214,2,none⟩ = some (.slice A1_2 l1_2.length c1_2) ∧ w'.cell? ⟨gb214,3,none⟩ = some (.int .i64 a1_3) ∧ w'.cell? ⟨gb214,4,none⟩ = some (.int .u32 a1_4)) ∧ (w'.heap[gb213]? = some (.cells #[.int .i64 a0_0,.int .i64 a0_1,.slice A0_2 l0_2.length c0_2,.int .i64 a0_3,.int .u32 a0_4] 37 (0,0))) ∧ (w'.heap[gb214]? = some (.cells #[.int .i64 a1_0,.int .i64 a1_1,.slice A1_2 l1_2.length c1_2,.int .i64 a1_3,.int .u32 a1_4] 37 (0,0))) ∧ (w'.heap[s_.1]? = some (.cells #[.int .i64 0,.int .i64 0,.slice none 0 0,.int .i64 0,.int .u32 0] 37 (0,0))) ∧ (w'.heap[s_.2]? = some (.cells #[.int .i64 0,.int .i64 0,.slice none 0 0,.int .i64 0,.int .u32 0] 37 (0,0))) ∧ (w.heap.size ≤ s_.1) ∧ (w.heap.size ≤ s_.1) ∧ (gb213 ≠ s_.1) ∧ (s_.1 ≠ gb213) ∧ (gb214 ≠ s_.1) ∧ (s_.1 ≠ gb214) ∧ (s_.2 ≠ s_.1) ∧ (s_.1 ≠ s_.2) ∧ (w.heap.size ≤ s_.2) ∧ (w.heap.size ≤ s_.2) ∧ (gb213 ≠ s_.2) ∧ (s_.2 ≠ gb213) ∧ (gb214 ≠ s_.2) ∧ (s_.2 ≠ gb214) ∧ (Below w.heap.size w w')) ?_ ?_
         rotate_left
         ·intro hJ4_5
          refine join_ (σ:=Value) 5 #[true,true,true,false,false,false,false,false] (fun s_=>[(18,.agg #[.int .i64 t216,.int .i64 t217,s_,.int .i64 t221,.int .u32 t222])]) (fun s_ w'=>(w'.cell? ⟨gb213,0,none⟩ = some (.int .i64 a0_0) ∧ w'.cell? ⟨gb213,1,none⟩ = some (.int .i64 a0_1) ∧ w'.cell? ⟨gb213,2,none⟩ = some (.slice A0_2 l0_2.length c0_2) ∧ w'.cell? ⟨gb213,3,none⟩ = some (.int .i64 a0_3) ∧ w'.cell? ⟨gb213,4,none⟩ = some (.int .u32 a0_4) ∧ w'.cell? ⟨gb214,0,none⟩ = some (.int .i64 a1_0) ∧ w'.cell? ⟨gb214,1,none⟩ = some (.int .i64 a1_1) ∧ w'.cell? ⟨gb214,2,none⟩ = some (.slice A1_2 l1_2.length c1_2) ∧ w'.cell? ⟨gb214,3,none⟩ = some (.int .i64 a1_3) ∧ w'.cell? ⟨gb214,4,none⟩ = some (.int .u32 a1_4)) ∧ (Kd.S (Kd.slice 3 (Kd.int .i64)) 28 w' w.heap.size (fun _=>True) s_ t218) ∧ (w'.heap[gb213]? = some (.cells #[.int .i64 a0_0,.int .i64 a0_1,.slice A0_2 l0_2.length c0_2,.int .i64 a0_3,.int .u32 a0_4] 37 (0,0))) ∧ (w'.heap[gb214]? = some (.cells #[.int .i64 a1_0,.int .i64 a1_1,.slice A1_2 l1_2.length c1_2,.int .i64 a1_3,.int .u32 a1_4] 37 (0,0))) ∧ (Below w.heap.size w w')) ?_ ?_
          rotate_left
          ·intro hJ1
           refine join_ (σ:=Nat) 5 #[true,false,true,false,true,false,false,false] (fun s_=>[(7,.pointer (some ⟨s_,0,none⟩))]) (fun s_ w'=>(w'.cell? ⟨gb213,0,none⟩ = some (.int .i64 a0_0) ∧ w'.cell? ⟨gb213,1,none⟩ = some (.int .i64 a0_1) ∧ w'.cell? ⟨gb213,2,none⟩ = some (.slice A0_2 l0_2.length c0_2) ∧ w'.cell? ⟨gb213,3,none⟩ = some (.int .i64 a0_3) ∧ w'.cell? ⟨gb213,4,none⟩ = some (.int .u32 a0_4) ∧ w'.cell? ⟨gb214,0,none⟩ = some (.int .i64 a1_0) ∧ w'.cell? ⟨gb214,1,none⟩ = some (.int .i64 a1_1) ∧ w'.cell? ⟨gb214,2,none⟩ = some (.slice A1_2 l1_2.length c1_2) ∧ w'.cell? ⟨gb214,3,none⟩ = some (.int .i64 a1_3) ∧ w'.cell? ⟨gb214,4,none⟩ = some (.int .u32 a1_4)) ∧ (w'.heap[gb213]? = some (.cells #[.int .i64 a0_0,.int .i64 a0_1,.slice A0_2 l0_2.length c0_2,.int .i64 a0_3,.int .u32 a0_4] 37 (0,0))) ∧ (w'.heap[gb214]? = some (.cells #[.int .i64 a1_0,.int .i64 a1_1,.slice A1_2 l1_2.length c1_2,.int .i64 a1_3,.int .u32 a1_4] 37 (0,0))) ∧ (w'.heap[s_]? = some (.cells #[.int .i64 0,.int .i64 0,.slice none 0 0,.int .i64 0,.int .u32 0] 37 (0,0))) ∧ (w.heap.size ≤ s_) ∧ (w.heap.size ≤ s_) ∧ (gb213 ≠ s_) ∧ (s_ ≠ gb213) ∧ (gb214 ≠ s_) ∧ (s_ ≠ gb214) ∧ (Below w.heap.size w w')) ?_ ?_
           rotate_left
           ·intro hJ4
            refine join_ (σ:=Nat) 5 #[true,false,true,false,false,true,false,false] (fun s_=>[(8,.pointer (some ⟨s_,0,none⟩))]) (fun s_ w'=>(w'.cell? ⟨gb213,0,none⟩ = some (.int .i64 a0_0) ∧ w'.cell? ⟨gb213,1,none⟩ = some (.int .i64 a0_1) ∧ w'.cell? ⟨gb213,2,none⟩ = some (.slice A0_2 l0_2.length c0_2) ∧ w'.cell? ⟨gb213,3,none⟩ = some (.int .i64 a0_3) ∧ w'.cell? ⟨gb213,4,none⟩ = some (.int .u32 a0_4) ∧ w'.cell? ⟨gb214,0,none⟩ = some (.int .i64 a1_0) ∧ w'.cell? ⟨gb214,1,none⟩ = some (.int .i64 a1_1) ∧ w'.cell? ⟨gb214,2,none⟩ = some (.slice A1_2 l1_2.length c1_2) ∧ w'.cell? ⟨gb214,3,none⟩ = some (.int .i64 a1_3) ∧ w'.cell? ⟨gb214,4,none⟩ = some (.int .u32 a1_4)) ∧ (w'.heap[gb213]? = some (.cells #[.int .i64 a0_0,.int .i64 a0_1,.slice A0_2 l0_2.length c0_2,.int .i64 a0_3,.int .u32 a0_4] 37 (0,0))) ∧ (w'.heap[gb214]? = some (.cells #[.int .i64 a1_0,.int .i64 a1_1,.slice A1_2 l1_2.length c1_2,.int .i64 a1_3,.int .u32 a1_4] 37 (0,0))) ∧ (w'.heap[s_]? = some (.cells #[.int .i64 0,.int .i64 0,.slice none 0 0,.int .i64 0,.int .u32 0] 37 (0,0))) ∧ (w.heap.size ≤ s_) ∧ (w.heap.size ≤ s_) ∧ (gb213 ≠ s_) ∧ (s_ ≠ gb213) ∧ (gb214 ≠ s_) ∧ (s_ ≠ gb214) ∧ (Below w.heap.size w w')) ?_ ?_
            rotate_left
            ·intro hJ5
             refine three_ (i:=1) (j:=4) (k:=5) (Ni:=some 18) (Nj:=some 7) (Nk:=some 8) #[true,true,true,false,false,false,false,false] #[true,false,true,false,true,false,false,false] #[true,false,true,false,false,true,false,false] rfl rfl rfl rfl rfl rfl (three_of HT_.out (by kernel_rfl)) (by decide) (by decide) (by decide) (fun K hK=>?_) (fun K hK=>?_) (fun K hK=>?_)
             ·skip
              refine goes_ Try.func54 (by kernel_rfl) rfl #[.agg #[.int .i64 a0_0,.int .i64 a0_1,.slice A0_2 l0_2.length c0_2,.int .i64 a0_3,.int .u32 a0_4]] (by rfl) rfl rfl (by (try simp only [List.map_toArray,List.map_cons,List.map_nil]);first|done|rfl|(simp only [List.length_drop,List.length_take];rfl)) ?_
              with_reducible refine (least_Small.calls k a0_0 a0_1 _ _ l0_2 a0_3 a0_4 t216 t217 t218 t221 t222 _ ?side1 ?side2 A5.out).mono ?_
              (case side1=>repeat (first|exact (Kd.C_below HR0_2.out HB.out)|(with_reducible refine Kd.C_alloc ?_ _)|(with_reducible refine Kd.C_drewN ?_ _)|(with_reducible refine Kd.C_drew ?_)))
              (case side2=>exact HC0_2.out)
              rintro e w15 ⟨v219,rfl,ho0,hb⟩
              refine ⟨_,rfl,?_⟩
              have n0_:=Aside0.mk (Kd.S_lower ho0 (below_size (by repeat (first|(with_reducible first|exact HB.out|apply below_alloc|apply pw_below_drewN|apply below_drew1|refine below_set ?_ GE213.out|refine below_set ?_ GE214.out)|exact HB.out))))
              have n1_:=Aside0.mk (blk_below (g:=gb213) (o:=.cells #[.int .i64 a0_0,.int .i64 a0_1,.slice A0_2 l0_2.length c0_2,.int .i64 a0_3,.int .u32 a0_4] 37 (0,0)) (by (with_reducible repeat (first|refine blk_drewN ?_ _|refine blk_drew ?_|refine blk_alloc ?_ _));exact BK213.out) hb)
              have n2_:=Aside0.mk (blk_below (g:=gb214) (o:=.cells #[.int .i64 a1_0,.int .i64 a1_1,.slice A1_2 l1_2.length c1_2,.int .i64 a1_3,.int .u32 a1_4] 37 (0,0)) (by (with_reducible repeat (first|refine blk_drewN ?_ _|refine blk_drew ?_|refine blk_alloc ?_ _));exact BK214.out) hb)
              have n3_:=Aside0.mk (below_step (by repeat (first|(with_reducible first|exact HB.out|apply below_alloc|apply pw_below_drewN|apply below_drew1|refine below_set ?_ GE213.out|refine below_set ?_ GE214.out)|exact HB.out)) hb)
              clear BK213
              clear BK214
              clear HB
              have HO220:=n0_
              have BK213:=n1_
              have BK214:=n2_
              have HB:=n3_
              clear n0_ n1_ n2_ n3_
              (try clear hb)
              (try clear hb2)
              (try clear hk)
              (try clear hi)
              (try clear ho0)
              refine hK.out _ _ ⟨(blk_cell BK213.out 0).trans rfl,(blk_cell BK213.out 1).trans rfl,(blk_cell BK213.out 2).trans rfl,(blk_cell BK213.out 3).trans rfl,(blk_cell BK213.out 4).trans rfl,(blk_cell BK214.out 0).trans rfl,(blk_cell BK214.out 1).trans rfl,(blk_cell BK214.out 2).trans rfl,(blk_cell BK214.out 3).trans rfl,(blk_cell BK214.out 4).trans rfl⟩ (fun hHeld=>?_)
              clear hK K
              refine norm_ (a':=?_) ?_ ?_
              rotate_left
              ·show Act.put _ (some 18) _ = _
               simp only [Act.put,List.setIfInBounds_toArray,List.set_cons_zero,List.set_cons_succ,i64_w,i32_w]
               rfl
              exact norm_ (by first|(simp only [putAll,Act.put,List.setIfInBounds_toArray,List.set_cons_zero,List.set_cons_succ];done)|(simp only [putAll,Act.put,List.setIfInBounds_toArray,List.set_cons_zero,List.set_cons_succ];rfl)) (hJ1 (v219) _ ⟨hHeld,(by (with_reducible repeat (first|apply Kd.S_alloc|apply Kd.S_drewN|apply Kd.S_drew));exact HO220.out),(by (with_reducible repeat (first|refine blk_drewN ?_ _|refine blk_drew ?_|refine blk_alloc ?_ _));exact BK213.out),(by (with_reducible repeat (first|refine blk_drewN ?_ _|refine blk_drew ?_|refine blk_alloc ?_ _));exact BK214.out),(by repeat (first|(with_reducible first|exact HB.out|apply below_alloc|apply pw_below_drewN|apply below_drew1|refine below_set ?_ GE213.out|refine below_set ?_ GE214.out)|exact HB.out))⟩)
             ·skip
              refine box_step ?hg (N:=7) ?hd (cs:=#[.int .i64 0,.int .i64 0,.slice none 0 0,.int .i64 0,.int .u32 0]) (t:=37) ?hr ?_;(case hd=>rfl);(case hg=>rfl);(case hr=>first|(go_simp;done)|(go_simp;rfl))
              intro gb230 hg w15 hbox hb
              have n0_:=Aside0.mk (blk_below (g:=gb213) (o:=.cells #[.int .i64 a0_0,.int .i64 a0_1,.slice A0_2 l0_2.length c0_2,.int .i64 a0_3,.int .u32 a0_4] 37 (0,0)) (by (with_reducible repeat (first|refine blk_drewN ?_ _|refine blk_drew ?_|refine blk_alloc ?_ _));exact BK213.out) hb)
              have n1_:=Aside0.mk (blk_below (g:=gb214) (o:=.cells #[.int .i64 a1_0,.int .i64 a1_1,.slice A1_2 l1_2.length c1_2,.int .i64 a1_3,.int .u32 a1_4] 37 (0,0)) (by (with_reducible repeat (first|refine blk_drewN ?_ _|refine blk_drew ?_|refine blk_alloc ?_ _));exact BK214.out) hb)
              have n2_:=Aside0.mk (below_step (by repeat (first|(with_reducible first|exact HB.out|apply below_alloc|apply pw_below_drewN|apply below_drew1|refine below_set ?_ GE213.out|refine below_set ?_ GE214.out)|exact HB.out)) hb)
              have n3_:=Aside0.mk (hbox)
              have n4_:=Aside0.mk ((by rw [hg];exact (below_size (by repeat (first|(with_reducible first|exact HB.out|apply below_alloc|apply pw_below_drewN|apply below_drew1|refine below_set ?_ GE213.out|refine below_set ?_ GE214.out)|exact HB.out))) : w.heap.size ≤ gb230))
              have n5_:=Aside0.mk ((by rw [hg];exact (below_size (by repeat (first|(with_reducible first|exact HB.out|apply below_alloc|apply pw_below_drewN|apply below_drew1|refine below_set ?_ GE213.out|refine below_set ?_ GE214.out)|exact HB.out))) : w.heap.size ≤ gb230))
              have n6_:=Aside0.mk ((by rw [hg];exact Nat.ne_of_lt (blk_lt (g:=gb213) (o:=.cells #[.int .i64 a0_0,.int .i64 a0_1,.slice A0_2 l0_2.length c0_2,.int .i64 a0_3,.int .u32 a0_4] 37 (0,0)) (by (with_reducible repeat (first|refine blk_drewN ?_ _|refine blk_drew ?_|refine blk_alloc ?_ _));exact BK213.out)) : gb213 ≠ gb230))
              have n7_:=Aside0.mk ((by rw [hg];exact Nat.ne_of_gt (blk_lt (g:=gb213) (o:=.cells #[.int .i64 a0_0,.int .i64 a0_1,.slice A0_2 l0_2.length c0_2,.int .i64 a0_3,.int .u32 a0_4] 37 (0,0)) (by (with_reducible repeat (first|refine blk_drewN ?_ _|refine blk_drew ?_|refine blk_alloc ?_ _));exact BK213.out)) : gb230 ≠ gb213))
              have n8_:=Aside0.mk ((by rw [hg];exact Nat.ne_of_lt (blk_lt (g:=gb214) (o:=.cells #[.int .i64 a1_0,.int .i64 a1_1,.slice A1_2 l1_2.length c1_2,.int .i64 a1_3,.int .u32 a1_4] 37 (0,0)) (by (with_reducible repeat (first|refine blk_drewN ?_ _|refine blk_drew ?_|refine blk_alloc ?_ _));exact BK214.out)) : gb214 ≠ gb230))
              have n9_:=Aside0.mk ((by rw [hg];exact Nat.ne_of_gt (blk_lt (g:=gb214) (o:=.cells #[.int .i64 a1_0,.int .i64 a1_1,.slice A1_2 l1_2.length c1_2,.int .i64 a1_3,.int .u32 a1_4] 37 (0,0)) (by (with_reducible repeat (first|refine blk_drewN ?_ _|refine blk_drew ?_|refine blk_alloc ?_ _));exact BK214.out)) : gb230 ≠ gb214))
              clear BK213
              clear BK214
              clear HB
              have BK213:=n0_
              have BK214:=n1_
              have HB:=n2_
              have BK230:=n3_
              have GW230:=n4_
              have GE230:=n5_
              have NB213_230:=n6_
              have NB230_213:=n7_
              have NB214_230:=n8_
              have NB230_214:=n9_
              clear n0_ n1_ n2_ n3_ n4_ n5_ n6_ n7_ n8_ n9_
              clear hb hbox hg
              refine hK.out _ _ ⟨(blk_cell BK213.out 0).trans rfl,(blk_cell BK213.out 1).trans rfl,(blk_cell BK213.out 2).trans rfl,(blk_cell BK213.out 3).trans rfl,(blk_cell BK213.out 4).trans rfl,(blk_cell BK214.out 0).trans rfl,(blk_cell BK214.out 1).trans rfl,(blk_cell BK214.out 2).trans rfl,(blk_cell BK214.out 3).trans rfl,(blk_cell BK214.out 4).trans rfl⟩ (fun hHeld=>?_)
              clear hK K
              refine norm_ (a':=?_) ?_ ?_
              rotate_left
              ·show Act.put _ (some 7) _ = _
               simp only [Act.put,List.setIfInBounds_toArray,List.set_cons_zero,List.set_cons_succ,i64_w,i32_w]
               rfl
              exact norm_ (by first|(simp only [putAll,Act.put,List.setIfInBounds_toArray,List.set_cons_zero,List.set_cons_succ];done)|(simp only [putAll,Act.put,List.setIfInBounds_toArray,List.set_cons_zero,List.set_cons_succ];rfl)) (hJ4 (gb230) _ ⟨hHeld,(by (with_reducible repeat (first|refine blk_drewN ?_ _|refine blk_drew ?_|refine blk_alloc ?_ _));exact BK213.out),(by (with_reducible repeat (first|refine blk_drewN ?_ _|refine blk_drew ?_|refine blk_alloc ?_ _));exact BK214.out),(by (with_reducible repeat (first|refine blk_drewN ?_ _|refine blk_drew ?_|refine blk_alloc ?_ _));exact BK230.out),GW230.out,GE230.out,NB213_230.out,NB230_213.out,NB214_230.out,NB230_214.out,(by repeat (first|(with_reducible first|exact HB.out|apply below_alloc|apply pw_below_drewN|apply below_drew1|refine below_set ?_ GE213.out|refine below_set ?_ GE214.out|refine below_set ?_ GE230.out)|exact HB.out))⟩)
             ·skip
              refine box_step ?hg (N:=8) ?hd (cs:=#[.int .i64 0,.int .i64 0,.slice none 0 0,.int .i64 0,.int .u32 0]) (t:=37) ?hr ?_;(case hd=>rfl);(case hg=>rfl);(case hr=>first|(go_simp;done)|(go_simp;rfl))
              intro gb231 hg w15 hbox hb
              have n0_:=Aside0.mk (blk_below (g:=gb213) (o:=.cells #[.int .i64 a0_0,.int .i64 a0_1,.slice A0_2 l0_2.length c0_2,.int .i64 a0_3,.int .u32 a0_4] 37 (0,0)) (by (with_reducible repeat (first|refine blk_drewN ?_ _|refine blk_drew ?_|refine blk_alloc ?_ _));exact BK213.out) hb)
              have n1_:=Aside0.mk (blk_below (g:=gb214) (o:=.cells #[.int .i64 a1_0,.int .i64 a1_1,.slice A1_2 l1_2.length c1_2,.int .i64 a1_3,.int .u32 a1_4] 37 (0,0)) (by (with_reducible repeat (first|refine blk_drewN ?_ _|refine blk_drew ?_|refine blk_alloc ?_ _));exact BK214.out) hb)
              have n2_:=Aside0.mk (below_step (by repeat (first|(with_reducible first|exact HB.out|apply below_alloc|apply pw_below_drewN|apply below_drew1|refine below_set ?_ GE213.out|refine below_set ?_ GE214.out)|exact HB.out)) hb)
              have n3_:=Aside0.mk (hbox)
              have n4_:=Aside0.mk ((by rw [hg];exact (below_size (by repeat (first|(with_reducible first|exact HB.out|apply below_alloc|apply pw_below_drewN|apply below_drew1|refine below_set ?_ GE213.out|refine below_set ?_ GE214.out)|exact HB.out))) : w.heap.size ≤ gb231))
              have n5_:=Aside0.mk ((by rw [hg];exact (below_size (by repeat (first|(with_reducible first|exact HB.out|apply below_alloc|apply pw_below_drewN|apply below_drew1|refine below_set ?_ GE213.out|refine below_set ?_ GE214.out)|exact HB.out))) : w.heap.size ≤ gb231))
              have n6_:=Aside0.mk ((by rw [hg];exact Nat.ne_of_lt (blk_lt (g:=gb213) (o:=.cells #[.int .i64 a0_0,.int .i64 a0_1,.slice A0_2 l0_2.length c0_2,.int .i64 a0_3,.int .u32 a0_4] 37 (0,0)) (by (with_reducible repeat (first|refine blk_drewN ?_ _|refine blk_drew ?_|refine blk_alloc ?_ _));exact BK213.out)) : gb213 ≠ gb231))
              have n7_:=Aside0.mk ((by rw [hg];exact Nat.ne_of_gt (blk_lt (g:=gb213) (o:=.cells #[.int .i64 a0_0,.int .i64 a0_1,.slice A0_2 l0_2.length c0_2,.int .i64 a0_3,.int .u32 a0_4] 37 (0,0)) (by (with_reducible repeat (first|refine blk_drewN ?_ _|refine blk_drew ?_|refine blk_alloc ?_ _));exact BK213.out)) : gb231 ≠ gb213))
              have n8_:=Aside0.mk ((by rw [hg];exact Nat.ne_of_lt (blk_lt (g:=gb214) (o:=.cells #[.int .i64 a1_0,.int .i64 a1_1,.slice A1_2 l1_2.length c1_2,.int .i64 a1_3,.int .u32 a1_4] 37 (0,0)) (by (with_reducible repeat (first|refine blk_drewN ?_ _|refine blk_drew ?_|refine blk_alloc ?_ _));exact BK214.out)) : gb214 ≠ gb231))
              have n9_:=Aside0.mk ((by rw [hg];exact Nat.ne_of_gt (blk_lt (g:=gb214) (o:=.cells #[.int .i64 a1_0,.int .i64 a1_1,.slice A1_2 l1_2.length c1_2,.int .i64 a1_3,.int .u32 a1_4] 37 (0,0)) (by (with_reducible repeat (first|refine blk_drewN ?_ _|refine blk_drew ?_|refine blk_alloc ?_ _));exact BK214.out)) : gb231 ≠ gb214))
              clear BK213
              clear BK214
              clear HB
              have BK213:=n0_
              have BK214:=n1_
              have HB:=n2_
              have BK231:=n3_
              have GW231:=n4_
              have GE231:=n5_
              have NB213_231:=n6_
              have NB231_213:=n7_
              have NB214_231:=n8_
              have NB231_214:=n9_
              clear n0_ n1_ n2_ n3_ n4_ n5_ n6_ n7_ n8_ n9_
              clear hb hbox hg
              refine hK.out _ _ ⟨(blk_cell BK213.out 0).trans rfl,(blk_cell BK213.out 1).trans rfl,(blk_cell BK213.out 2).trans rfl,(blk_cell BK213.out 3).trans rfl,(blk_cell BK213.out 4).trans rfl,(blk_cell BK214.out 0).trans rfl,(blk_cell BK214.out 1).trans rfl,(blk_cell BK214.out 2).trans rfl,(blk_cell BK214.out 3).trans rfl,(blk_cell BK214.out 4).trans rfl⟩ (fun hHeld=>?_)
              clear hK K
              refine norm_ (a':=?_) ?_ ?_
              rotate_left
              ·show Act.put _ (some 8) _ = _
               simp only [Act.put,List.setIfInBounds_toArray,List.set_cons_zero,List.set_cons_succ,i64_w,i32_w]
               rfl
              exact norm_ (by first|(simp only [putAll,Act.put,List.setIfInBounds_toArray,List.set_cons_zero,List.set_cons_succ];done)|(simp only [putAll,Act.put,List.setIfInBounds_toArray,List.set_cons_zero,List.set_cons_succ];rfl)) (hJ5 (gb231) _ ⟨hHeld,(by (with_reducible repeat (first|refine blk_drewN ?_ _|refine blk_drew ?_|refine blk_alloc ?_ _));exact BK213.out),(by (with_reducible repeat (first|refine blk_drewN ?_ _|refine blk_drew ?_|refine blk_alloc ?_ _));exact BK214.out),(by (with_reducible repeat (first|refine blk_drewN ?_ _|refine blk_drew ?_|refine blk_alloc ?_ _));exact BK231.out),GW231.out,GE231.out,NB213_231.out,NB231_213.out,NB214_231.out,NB231_214.out,(by repeat (first|(with_reducible first|exact HB.out|apply below_alloc|apply pw_below_drewN|apply below_drew1|refine below_set ?_ GE213.out|refine below_set ?_ GE214.out|refine below_set ?_ GE231.out)|exact HB.out))⟩)
            ·skip
             rintro gb231 w16 ⟨hS_,h0_,h1_,h2_,h3_,h4_,h5_,h6_,h7_,h8_,h9_⟩
             have n0_ : Aside0 (w16.heap[gb213]? = some (.cells #[.int .i64 a0_0,.int .i64 a0_1,.slice A0_2 l0_2.length c0_2,.int .i64 a0_3,.int .u32 a0_4] 37 (0,0))):=⟨h0_⟩
             have n1_ : Aside0 (w16.heap[gb214]? = some (.cells #[.int .i64 a1_0,.int .i64 a1_1,.slice A1_2 l1_2.length c1_2,.int .i64 a1_3,.int .u32 a1_4] 37 (0,0))):=⟨h1_⟩
             have n2_ : Aside0 (w16.heap[gb231]? = some (.cells #[.int .i64 0,.int .i64 0,.slice none 0 0,.int .i64 0,.int .u32 0] 37 (0,0))):=⟨h2_⟩
             have n3_ : Aside0 (w.heap.size ≤ gb231):=⟨h3_⟩
             have n4_ : Aside0 (w.heap.size ≤ gb231):=⟨h4_⟩
             have n5_ : Aside0 (gb213 ≠ gb231):=⟨h5_⟩
             have n6_ : Aside0 (gb231 ≠ gb213):=⟨h6_⟩
             have n7_ : Aside0 (gb214 ≠ gb231):=⟨h7_⟩
             have n8_ : Aside0 (gb231 ≠ gb214):=⟨h8_⟩
             have n9_ : Aside0 (Below w.heap.size w w16):=⟨h9_⟩
             clear BK213
             clear BK214
             clear HB
             clear h0_ h1_ h2_ h3_ h4_ h5_ h6_ h7_ h8_ h9_
             have BK213:=n0_
             have BK214:=n1_
             have BK231:=n2_
             have GW231:=n3_
             have GE231:=n4_
             have NB213_231:=n5_
             have NB231_213:=n6_
             have NB214_231:=n7_
             have NB231_214:=n8_
             have HB:=n9_
             clear n0_ n1_ n2_ n3_ n4_ n5_ n6_ n7_ n8_ n9_
             have hHeld : w16.cell? ⟨gb213,0,none⟩ = some (.int .i64 a0_0) ∧ w16.cell? ⟨gb213,1,none⟩ = some (.int .i64 a0_1) ∧ w16.cell? ⟨gb213,2,none⟩ = some (.slice A0_2 l0_2.length c0_2) ∧ w16.cell? ⟨gb213,3,none⟩ = some (.int .i64 a0_3) ∧ w16.cell? ⟨gb213,4,none⟩ = some (.int .u32 a0_4) ∧ w16.cell? ⟨gb214,0,none⟩ = some (.int .i64 a1_0) ∧ w16.cell? ⟨gb214,1,none⟩ = some (.int .i64 a1_1) ∧ w16.cell? ⟨gb214,2,none⟩ = some (.slice A1_2 l1_2.length c1_2) ∧ w16.cell? ⟨gb214,3,none⟩ = some (.int .i64 a1_3) ∧ w16.cell? ⟨gb214,4,none⟩ = some (.int .u32 a1_4):=hS_
             refine norm_ (a':=?_) ?_ ?_
             rotate_left
             ·simp only [putAll,Act.put,List.setIfInBounds_toArray,List.set_cons_zero,List.set_cons_succ]
              rfl
             refine two_ (i:=1) (j:=4) (Ni:=some 18) (Nj:=some 7) #[true,true,true,false,false,true,false,false] #[true,false,true,false,true,true,false,false] rfl rfl rfl rfl (two_of HT_.out (by kernel_rfl)) (by decide) (by decide) (fun K hK=>?_) (fun K hK=>?_)
             ·skip
              refine goes_ Try.func54 (by kernel_rfl) rfl #[.agg #[.int .i64 a0_0,.int .i64 a0_1,.slice A0_2 l0_2.length c0_2,.int .i64 a0_3,.int .u32 a0_4]] (by rfl) rfl rfl (by (try simp only [List.map_toArray,List.map_cons,List.map_nil]);first|done|rfl|(simp only [List.length_drop,List.length_take];rfl)) ?_
              with_reducible refine (least_Small.calls k a0_0 a0_1 _ _ l0_2 a0_3 a0_4 t216 t217 t218 t221 t222 _ ?side1 ?side2 A5.out).mono ?_
              (case side1=>repeat (first|exact (Kd.C_below HR0_2.out HB.out)|(with_reducible refine Kd.C_alloc ?_ _)|(with_reducible refine Kd.C_drewN ?_ _)|(with_reducible refine Kd.C_drew ?_)))
              (case side2=>exact HC0_2.out)
              rintro e w17 ⟨v219,rfl,ho0,hb⟩
              refine ⟨_,rfl,?_⟩
              have n0_:=Aside0.mk (Kd.S_lower ho0 (below_size (by repeat (first|(with_reducible first|exact HB.out|apply below_alloc|apply pw_below_drewN|apply below_drew1|refine below_set ?_ GE213.out|refine below_set ?_ GE214.out|refine below_set ?_ GE231.out)|exact HB.out))))
              have n1_:=Aside0.mk (blk_below (g:=gb213) (o:=.cells #[.int .i64 a0_0,.int .i64 a0_1,.slice A0_2 l0_2.length c0_2,.int .i64 a0_3,.int .u32 a0_4] 37 (0,0)) (by (with_reducible repeat (first|refine blk_drewN ?_ _|refine blk_drew ?_|refine blk_alloc ?_ _));exact BK213.out) hb)
              have n2_:=Aside0.mk (blk_below (g:=gb214) (o:=.cells #[.int .i64 a1_0,.int .i64 a1_1,.slice A1_2 l1_2.length c1_2,.int .i64 a1_3,.int .u32 a1_4] 37 (0,0)) (by (with_reducible repeat (first|refine blk_drewN ?_ _|refine blk_drew ?_|refine blk_alloc ?_ _));exact BK214.out) hb)
              have n3_:=Aside0.mk (blk_below (g:=gb231) (o:=.cells #[.int .i64 0,.int .i64 0,.slice none 0 0,.int .i64 0,.int .u32 0] 37 (0,0)) (by (with_reducible repeat (first|refine blk_drewN ?_ _|refine blk_drew ?_|refine blk_alloc ?_ _));exact BK231.out) hb)
              have n4_:=Aside0.mk (below_step (by repeat (first|(with_reducible first|exact HB.out|apply below_alloc|apply pw_below_drewN|apply below_drew1|refine below_set ?_ GE213.out|refine below_set ?_ GE214.out|refine below_set ?_ GE231.out)|exact HB.out)) hb)
              clear BK213
              clear BK214
              clear BK231
              clear HB
              have HO220:=n0_
              have BK213:=n1_
              have BK214:=n2_
              have BK231:=n3_
              have HB:=n4_
              clear n0_ n1_ n2_ n3_ n4_
              (try clear hb)
              (try clear hb2)
              (try clear hk)
              (try clear hi)
              (try clear ho0)
              refine hK.out _ _ ⟨(blk_cell BK213.out 0).trans rfl,(blk_cell BK213.out 1).trans rfl,(blk_cell BK213.out 2).trans rfl,(blk_cell BK213.out 3).trans rfl,(blk_cell BK213.out 4).trans rfl,(blk_cell BK214.out 0).trans rfl,(blk_cell BK214.out 1).trans rfl,(blk_cell BK214.out 2).trans rfl,(blk_cell BK214.out 3).trans rfl,(blk_cell BK214.out 4).trans rfl⟩ (fun hHeld=>?_)
              clear hK K
              refine norm_ (a':=?_) ?_ ?_
              rotate_left
              ·show Act.put _ (some 18) _ = _
               simp only [Act.put,List.setIfInBounds_toArray,List.set_cons_zero,List.set_cons_succ,i64_w,i32_w]
               rfl
              exact norm_ (by first|(simp only [putAll,Act.put,List.setIfInBounds_toArray,List.set_cons_zero,List.set_cons_succ];done)|(simp only [putAll,Act.put,List.setIfInBounds_toArray,List.set_cons_zero,List.set_cons_succ];rfl)) (hJ1_5 (v219,gb231) _ ⟨hHeld,(by (with_reducible repeat (first|apply Kd.S_alloc|apply Kd.S_drewN|apply Kd.S_drew));exact HO220.out),(by (with_reducible repeat (first|refine blk_drewN ?_ _|refine blk_drew ?_|refine blk_alloc ?_ _));exact BK213.out),(by (with_reducible repeat (first|refine blk_drewN ?_ _|refine blk_drew ?_|refine blk_alloc ?_ _));exact BK214.out),(by (with_reducible repeat (first|refine blk_drewN ?_ _|refine blk_drew ?_|refine blk_alloc ?_ _));exact BK231.out),GW231.out,GE231.out,NB213_231.out,NB231_213.out,NB214_231.out,NB231_214.out,(by repeat (first|(with_reducible first|exact HB.out|apply below_alloc|apply pw_below_drewN|apply below_drew1|refine below_set ?_ GE213.out|refine below_set ?_ GE214.out|refine below_set ?_ GE231.out)|exact HB.out))⟩)
             ·skip
              refine box_step ?hg (N:=7) ?hd (cs:=#[.int .i64 0,.int .i64 0,.slice none 0 0,.int .i64 0,.int .u32 0]) (t:=37) ?hr ?_;(case hd=>rfl);(case hg=>rfl);(case hr=>first|(go_simp;done)|(go_simp;rfl))
              intro gb230 hg w17 hbox hb
              have n0_:=Aside0.mk (blk_below (g:=gb213) (o:=.cells #[.int .i64 a0_0,.int .i64 a0_1,.slice A0_2 l0_2.length c0_2,.int .i64 a0_3,.int .u32 a0_4] 37 (0,0)) (by (with_reducible repeat (first|refine blk_drewN ?_ _|refine blk_drew ?_|refine blk_alloc ?_ _));exact BK213.out) hb)
              have n1_:=Aside0.mk (blk_below (g:=gb214) (o:=.cells #[.int .i64 a1_0,.int .i64 a1_1,.slice A1_2 l1_2.length c1_2,.int .i64 a1_3,.int .u32 a1_4] 37 (0,0)) (by (with_reducible repeat (first|refine blk_drewN ?_ _|refine blk_drew ?_|refine blk_alloc ?_ _));exact BK214.out) hb)
              have n2_:=Aside0.mk (blk_below (g:=gb231) (o:=.cells #[.int .i64 0,.int .i64 0,.slice none 0 0,.int .i64 0,.int .u32 0] 37 (0,0)) (by (with_reducible repeat (first|refine blk_drewN ?_ _|refine blk_drew ?_|refine blk_alloc ?_ _));exact BK231.out) hb)
              have n3_:=Aside0.mk (below_step (by repeat (first|(with_reducible first|exact HB.out|apply below_alloc|apply pw_below_drewN|apply below_drew1|refine below_set ?_ GE213.out|refine below_set ?_ GE214.out|refine below_set ?_ GE231.out)|exact HB.out)) hb)
              have n4_:=Aside0.mk (hbox)
              have n5_:=Aside0.mk ((by rw [hg];exact (below_size (by repeat (first|(with_reducible first|exact HB.out|apply below_alloc|apply pw_below_drewN|apply below_drew1|refine below_set ?_ GE213.out|refine below_set ?_ GE214.out|refine below_set ?_ GE231.out)|exact HB.out))) : w.heap.size ≤ gb230))
              have n6_:=Aside0.mk ((by rw [hg];exact (below_size (by repeat (first|(with_reducible first|exact HB.out|apply below_alloc|apply pw_below_drewN|apply below_drew1|refine below_set ?_ GE213.out|refine below_set ?_ GE214.out|refine below_set ?_ GE231.out)|exact HB.out))) : w.heap.size ≤ gb230))
              have n7_:=Aside0.mk ((by rw [hg];exact Nat.ne_of_lt (blk_lt (g:=gb213) (o:=.cells #[.int .i64 a0_0,.int .i64 a0_1,.slice A0_2 l0_2.length c0_2,.int .i64 a0_3,.int .u32 a0_4] 37 (0,0)) (by (with_reducible repeat (first|refine blk_drewN ?_ _|refine blk_drew ?_|refine blk_alloc ?_ _));exact BK213.out)) : gb213 ≠ gb230))
              have n8_:=Aside0.mk ((by rw [hg];exact Nat.ne_of_gt (blk_lt (g:=gb213) (o:=.cells #[.int .i64 a0_0,.int .i64 a0_1,.slice A0_2 l0_2.length c0_2,.int .i64 a0_3,.int .u32 a0_4] 37 (0,0)) (by (with_reducible repeat (first|refine blk_drewN ?_ _|refine blk_drew ?_|refine blk_alloc ?_ _));exact BK213.out)) : gb230 ≠ gb213))
              have n9_:=Aside0.mk ((by rw [hg];exact Nat.ne_of_lt (blk_lt (g:=gb214) (o:=.cells #[.int .i64 a1_0,.int .i64 a1_1,.slice A1_2 l1_2.length c1_2,.int .i64 a1_3,.int .u32 a1_4] 37 (0,0)) (by (with_reducible repeat (first|refine blk_drewN ?_ _|refine blk_drew ?_|refine blk_alloc ?_ _));exact BK214.out)) : gb214 ≠ gb230))
              have n10_:=Aside0.mk ((by rw [hg];exact Nat.ne_of_gt (blk_lt (g:=gb214) (o:=.cells #[.int .i64 a1_0,.int .i64 a1_1,.slice A1_2 l1_2.length c1_2,.int .i64 a1_3,.int .u32 a1_4] 37 (0,0)) (by (with_reducible repeat (first|refine blk_drewN ?_ _|refine blk_drew ?_|refine blk_alloc ?_ _));exact BK214.out)) : gb230 ≠ gb214))
              have n11_:=Aside0.mk ((by rw [hg];exact Nat.ne_of_lt (blk_lt (g:=gb231) (o:=.cells #[.int .i64 0,.int .i64 0,.slice none 0 0,.int .i64 0,.int .u32 0] 37 (0,0)) (by (with_reducible repeat (first|refine blk_drewN ?_ _|refine blk_drew ?_|refine blk_alloc ?_ _));exact BK231.out)) : gb231 ≠ gb230))
              have n12_:=Aside0.mk ((by rw [hg];exact Nat.ne_of_gt (blk_lt (g:=gb231) (o:=.cells #[.int .i64 0,.int .i64 0,.slice none 0 0,.int .i64 0,.int .u32 0] 37 (0,0)) (by (with_reducible repeat (first|refine blk_drewN ?_ _|refine blk_drew ?_|refine blk_alloc ?_ _));exact BK231.out)) : gb230 ≠ gb231))
              clear BK213
              clear BK214
              clear BK231
              clear HB
              have BK213:=n0_
              have BK214:=n1_
              have BK231:=n2_
              have HB:=n3_
              have BK230:=n4_
              have GW230:=n5_
              have GE230:=n6_
              have NB213_230:=n7_
              have NB230_213:=n8_
              have NB214_230:=n9_
              have NB230_214:=n10_
              have NB231_230:=n11_
              have NB230_231:=n12_
              clear n0_ n1_ n2_ n3_ n4_ n5_ n6_ n7_ n8_ n9_ n10_ n11_ n12_
              clear hb hbox hg
              refine hK.out _ _ ⟨(blk_cell BK213.out 0).trans rfl,(blk_cell BK213.out 1).trans rfl,(blk_cell BK213.out 2).trans rfl,(blk_cell BK213.out 3).trans rfl,(blk_cell BK213.out 4).trans rfl,(blk_cell BK214.out 0).trans rfl,(blk_cell BK214.out 1).trans rfl,(blk_cell BK214.out 2).trans rfl,(blk_cell BK214.out 3).trans rfl,(blk_cell BK214.out 4).trans rfl⟩ (fun hHeld=>?_)
              clear hK K
              refine norm_ (a':=?_) ?_ ?_
              rotate_left
              ·show Act.put _ (some 7) _ = _
               simp only [Act.put,List.setIfInBounds_toArray,List.set_cons_zero,List.set_cons_succ,i64_w,i32_w]
               rfl
              exact norm_ (by first|(simp only [putAll,Act.put,List.setIfInBounds_toArray,List.set_cons_zero,List.set_cons_succ];done)|(simp only [putAll,Act.put,List.setIfInBounds_toArray,List.set_cons_zero,List.set_cons_succ];rfl)) (hJ4_5 (gb230,gb231) _ ⟨hHeld,(by (with_reducible repeat (first|refine blk_drewN ?_ _|refine blk_drew ?_|refine blk_alloc ?_ _));exact BK213.out),(by (with_reducible repeat (first|refine blk_drewN ?_ _|refine blk_drew ?_|refine blk_alloc ?_ _));exact BK214.out),(by (with_reducible repeat (first|refine blk_drewN ?_ _|refine blk_drew ?_|refine blk_alloc ?_ _));exact BK230.out),(by (with_reducible repeat (first|refine blk_drewN ?_ _|refine blk_drew ?_|refine blk_alloc ?_ _));exact BK231.out),GW230.out,GE230.out,NB213_230.out,NB230_213.out,NB214_230.out,NB230_214.out,NB231_230.out,NB230_231.out,GW231.out,GE231.out,NB213_231.out,NB231_213.out,NB214_231.out,NB231_214.out,(by repeat (first|(with_reducible first|exact HB.out|apply below_alloc|apply pw_below_drewN|apply below_drew1|refine below_set ?_ GE213.out|refine below_set ?_ GE214.out|refine below_set ?_ GE231.out|refine below_set ?_ GE230.out)|exact HB.out))⟩)
           ·skip
            rintro gb230 w16 ⟨hS_,h0_,h1_,h2_,h3_,h4_,h5_,h6_,h7_,h8_,h9_⟩
            have n0_ : Aside0 (w16.heap[gb213]? = some (.cells #[.int .i64 a0_0,.int .i64 a0_1,.slice A0_2 l0_2.length c0_2,.int .i64 a0_3,.int .u32 a0_4] 37 (0,0))):=⟨h0_⟩
            have n1_ : Aside0 (w16.heap[gb214]? = some (.cells #[.int .i64 a1_0,.int .i64 a1_1,.slice A1_2 l1_2.length c1_2,.int .i64 a1_3,.int .u32 a1_4] 37 (0,0))):=⟨h1_⟩
            have n2_ : Aside0 (w16.heap[gb230]? = some (.cells #[.int .i64 0,.int .i64 0,.slice none 0 0,.int .i64 0,.int .u32 0] 37 (0,0))):=⟨h2_⟩
            have n3_ : Aside0 (w.heap.size ≤ gb230):=⟨h3_⟩
            have n4_ : Aside0 (w.heap.size ≤ gb230):=⟨h4_⟩
            have n5_ : Aside0 (gb213 ≠ gb230):=⟨h5_⟩
            have n6_ : Aside0 (gb230 ≠ gb213):=⟨h6_⟩
            have n7_ : Aside0 (gb214 ≠ gb230):=⟨h7_⟩
            have n8_ : Aside0 (gb230 ≠ gb214):=⟨h8_⟩
            have n9_ : Aside0 (Below w.heap.size w w16):=⟨h9_⟩
            clear BK213
            clear BK214
            clear HB
            clear h0_ h1_ h2_ h3_ h4_ h5_ h6_ h7_ h8_ h9_
            have BK213:=n0_
            have BK214:=n1_
            have BK230:=n2_
            have GW230:=n3_
            have GE230:=n4_
            have NB213_230:=n5_
            have NB230_213:=n6_
            have NB214_230:=n7_
            have NB230_214:=n8_
            have HB:=n9_
            clear n0_ n1_ n2_ n3_ n4_ n5_ n6_ n7_ n8_ n9_
            have hHeld : w16.cell? ⟨gb213,0,none⟩ = some (.int .i64 a0_0) ∧ w16.cell? ⟨gb213,1,none⟩ = some (.int .i64 a0_1) ∧ w16.cell? ⟨gb213,2,none⟩ = some (.slice A0_2 l0_2.length c0_2) ∧ w16.cell? ⟨gb213,3,none⟩ = some (.int .i64 a0_3) ∧ w16.cell? ⟨gb213,4,none⟩ = some (.int .u32 a0_4) ∧ w16.cell? ⟨gb214,0,none⟩ = some (.int .i64 a1_0) ∧ w16.cell? ⟨gb214,1,none⟩ = some (.int .i64 a1_1) ∧ w16.cell? ⟨gb214,2,none⟩ = some (.slice A1_2 l1_2.length c1_2) ∧ w16.cell? ⟨gb214,3,none⟩ = some (.int .i64 a1_3) ∧ w16.cell? ⟨gb214,4,none⟩ = some (.int .u32 a1_4):=hS_
            refine norm_ (a':=?_) ?_ ?_
            rotate_left
            ·simp only [putAll,Act.put,List.setIfInBounds_toArray,List.set_cons_zero,List.set_cons_succ]
             rfl
            refine two_ (i:=1) (j:=5) (Ni:=some 18) (Nj:=some 8) #[true,true,true,false,true,false,false,false] #[true,false,true,false,true,true,false,false] rfl rfl rfl rfl (two_of HT_.out (by kernel_rfl)) (by decide) (by decide) (fun K hK=>?_) (fun K hK=>?_)
            ·skip
             refine goes_ Try.func54 (by kernel_rfl) rfl #[.agg #[.int .i64 a0_0,.int .i64 a0_1,.slice A0_2 l0_2.length c0_2,.int .i64 a0_3,.int .u32 a0_4]] (by rfl) rfl rfl (by (try simp only [List.map_toArray,List.map_cons,List.map_nil]);first|done|rfl|(simp only [List.length_drop,List.length_take];rfl)) ?_
             with_reducible refine (least_Small.calls k a0_0 a0_1 _ _ l0_2 a0_3 a0_4 t216 t217 t218 t221 t222 _ ?side1 ?side2 A5.out).mono ?_
             (case side1=>repeat (first|exact (Kd.C_below HR0_2.out HB.out)|(with_reducible refine Kd.C_alloc ?_ _)|(with_reducible refine Kd.C_drewN ?_ _)|(with_reducible refine Kd.C_drew ?_)))
             (case side2=>exact HC0_2.out)
             rintro e w17 ⟨v219,rfl,ho0,hb⟩
             refine ⟨_,rfl,?_⟩
             have n0_:=Aside0.mk (Kd.S_lower ho0 (below_size (by repeat (first|(with_reducible first|exact HB.out|apply below_alloc|apply pw_below_drewN|apply below_drew1|refine below_set ?_ GE213.out|refine below_set ?_ GE214.out|refine below_set ?_ GE230.out)|exact HB.out))))
             have n1_:=Aside0.mk (blk_below (g:=gb213) (o:=.cells #[.int .i64 a0_0,.int .i64 a0_1,.slice A0_2 l0_2.length c0_2,.int .i64 a0_3,.int .u32 a0_4] 37 (0,0)) (by (with_reducible repeat (first|refine blk_drewN ?_ _|refine blk_drew ?_|refine blk_alloc ?_ _));exact BK213.out) hb)
             have n2_:=Aside0.mk (blk_below (g:=gb214) (o:=.cells #[.int .i64 a1_0,.int .i64 a1_1,.slice A1_2 l1_2.length c1_2,.int .i64 a1_3,.int .u32 a1_4] 37 (0,0)) (by (with_reducible repeat (first|refine blk_drewN ?_ _|refine blk_drew ?_|refine blk_alloc ?_ _));exact BK214.out) hb)
             have n3_:=Aside0.mk (blk_below (g:=gb230) (o:=.cells #[.int .i64 0,.int .i64 0,.slice none 0 0,.int .i64 0,.int .u32 0] 37 (0,0)) (by (with_reducible repeat (first|refine blk_drewN ?_ _|refine blk_drew ?_|refine blk_alloc ?_ _));exact BK230.out) hb)
             have n4_:=Aside0.mk (below_step (by repeat (first|(with_reducible first|exact HB.out|apply below_alloc|apply pw_below_drewN|apply below_drew1|refine below_set ?_ GE213.out|refine below_set ?_ GE214.out|refine below_set ?_ GE230.out)|exact HB.out)) hb)
             clear BK213
             clear BK214
             clear BK230
             clear HB
             have HO220:=n0_
             have BK213:=n1_
             have BK214:=n2_
             have BK230:=n3_
             have HB:=n4_
             clear n0_ n1_ n2_ n3_ n4_
             (try clear hb)
             (try clear hb2)
             (try clear hk)
             (try clear hi)
             (try clear ho0)
             refine hK.out _ _ ⟨(blk_cell BK213.out 0).trans rfl,(blk_cell BK213.out 1).trans rfl,(blk_cell BK213.out 2).trans rfl,(blk_cell BK213.out 3).trans rfl,(blk_cell BK213.out 4).trans rfl,(blk_cell BK214.out 0).trans rfl,(blk_cell BK214.out 1).trans rfl,(blk_cell BK214.out 2).trans rfl,(blk_cell BK214.out 3).trans rfl,(blk_cell BK214.out 4).trans rfl⟩ (fun hHeld=>?_)
             clear hK K
             refine norm_ (a':=?_) ?_ ?_
             rotate_left
             ·show Act.put _ (some 18) _ = _
              simp only [Act.put,List.setIfInBounds_toArray,List.set_cons_zero,List.set_cons_succ,i64_w,i32_w]
              rfl
             exact norm_ (by first|(simp only [putAll,Act.put,List.setIfInBounds_toArray,List.set_cons_zero,List.set_cons_succ];done)|(simp only [putAll,Act.put,List.setIfInBounds_toArray,List.set_cons_zero,List.set_cons_succ];rfl)) (hJ1_4 (v219,gb230) _ ⟨hHeld,(by (with_reducible repeat (first|apply Kd.S_alloc|apply Kd.S_drewN|apply Kd.S_drew));exact HO220.out),(by (with_reducible repeat (first|refine blk_drewN ?_ _|refine blk_drew ?_|refine blk_alloc ?_ _));exact BK213.out),(by (with_reducible repeat (first|refine blk_drewN ?_ _|refine blk_drew ?_|refine blk_alloc ?_ _));exact BK214.out),(by (with_reducible repeat (first|refine blk_drewN ?_ _|refine blk_drew ?_|refine blk_alloc ?_ _));exact BK230.out),GW230.out,GE230.out,NB213_230.out,NB230_213.out,NB214_230.out,NB230_214.out,(by repeat (first|(with_reducible first|exact HB.out|apply below_alloc|apply pw_below_drewN|apply below_drew1|refine below_set ?_ GE213.out|refine below_set ?_ GE214.out|refine below_set ?_ GE230.out)|exact HB.out))⟩)
            ·skip
             refine box_step ?hg (N:=8) ?hd (cs:=#[.int .i64 0,.int .i64 0,.slice none 0 0,.int .i64 0,.int .u32 0]) (t:=37) ?hr ?_;(case hd=>rfl);(case hg=>rfl);(case hr=>first|(go_simp;done)|(go_simp;rfl))
             intro gb231 hg w17 hbox hb
             have n0_:=Aside0.mk (blk_below (g:=gb213) (o:=.cells #[.int .i64 a0_0,.int .i64 a0_1,.slice A0_2 l0_2.length c0_2,.int .i64 a0_3,.int .u32 a0_4] 37 (0,0)) (by (with_reducible repeat (first|refine blk_drewN ?_ _|refine blk_drew ?_|refine blk_alloc ?_ _));exact BK213.out) hb)
             have n1_:=Aside0.mk (blk_below (g:=gb214) (o:=.cells #[.int .i64 a1_0,.int .i64 a1_1,.slice A1_2 l1_2.length c1_2,.int .i64 a1_3,.int .u32 a1_4] 37 (0,0)) (by (with_reducible repeat (first|refine blk_drewN ?_ _|refine blk_drew ?_|refine blk_alloc ?_ _));exact BK214.out) hb)
             have n2_:=Aside0.mk (blk_below (g:=gb230) (o:=.cells #[.int .i64 0,.int .i64 0,.slice none 0 0,.int .i64 0,.int .u32 0] 37 (0,0)) (by (with_reducible repeat (first|refine blk_drewN ?_ _|refine blk_drew ?_|refine blk_alloc ?_ _));exact BK230.out) hb)
             have n3_:=Aside0.mk (below_step (by repeat (first|(with_reducible first|exact HB.out|apply below_alloc|apply pw_below_drewN|apply below_drew1|refine below_set ?_ GE213.out|refine below_set ?_ GE214.out|refine below_set ?_ GE230.out)|exact HB.out)) hb)
             have n4_:=Aside0.mk (hbox)
             have n5_:=Aside0.mk ((by rw [hg];exact (below_size (by repeat (first|(with_reducible first|exact HB.out|apply below_alloc|apply pw_below_drewN|apply below_drew1|refine below_set ?_ GE213.out|refine below_set ?_ GE214.out|refine below_set ?_ GE230.out)|exact HB.out))) : w.heap.size ≤ gb231))
             have n6_:=Aside0.mk ((by rw [hg];exact (below_size (by repeat (first|(with_reducible first|exact HB.out|apply below_alloc|apply pw_below_drewN|apply below_drew1|refine below_set ?_ GE213.out|refine below_set ?_ GE214.out|refine below_set ?_ GE230.out)|exact HB.out))) : w.heap.size ≤ gb231))
             have n7_:=Aside0.mk ((by rw [hg];exact Nat.ne_of_lt (blk_lt (g:=gb213) (o:=.cells #[.int .i64 a0_0,.int .i64 a0_1,.slice A0_2 l0_2.length c0_2,.int .i64 a0_3,.int .u32 a0_4] 37 (0,0)) (by (with_reducible repeat (first|refine blk_drewN ?_ _|refine blk_drew ?_|refine blk_alloc ?_ _));exact BK213.out)) : gb213 ≠ gb231))
             have n8_:=Aside0.mk ((by rw [hg];exact Nat.ne_of_gt (blk_lt (g:=gb213) (o:=.cells #[.int .i64 a0_0,.int .i64 a0_1,.slice A0_2 l0_2.length c0_2,.int .i64 a0_3,.int .u32 a0_4] 37 (0,0)) (by (with_reducible repeat (first|refine blk_drewN ?_ _|refine blk_drew ?_|refine blk_alloc ?_ _));exact BK213.out)) : gb231 ≠ gb213))
             have n9_:=Aside0.mk ((by rw [hg];exact Nat.ne_of_lt (blk_lt (g:=gb214) (o:=.cells #[.int .i64 a1_0,.int .i64 a1_1,.slice A1_2 l1_2.length c1_2,.int .i64 a1_3,.int .u32 a1_4] 37 (0,0)) (by (with_reducible repeat (first|refine blk_drewN ?_ _|refine blk_drew ?_|refine blk_alloc ?_ _));exact BK214.out)) : gb214 ≠ gb231))
             have n10_:=Aside0.mk ((by rw [hg];exact Nat.ne_of_gt (blk_lt (g:=gb214) (o:=.cells #[.int .i64 a1_0,.int .i64 a1_1,.slice A1_2 l1_2.length c1_2,.int .i64 a1_3,.int .u32 a1_4] 37 (0,0)) (by (with_reducible repeat (first|refine blk_drewN ?_ _|refine blk_drew ?_|refine blk_alloc ?_ _));exact BK214.out)) : gb231 ≠ gb214))
             have n11_:=Aside0.mk ((by rw [hg];exact Nat.ne_of_lt (blk_lt (g:=gb230) (o:=.cells #[.int .i64 0,.int .i64 0,.slice none 0 0,.int .i64 0,.int .u32 0] 37 (0,0)) (by (with_reducible repeat (first|refine blk_drewN ?_ _|refine blk_drew ?_|refine blk_alloc ?_ _));exact BK230.out)) : gb230 ≠ gb231))
             have n12_:=Aside0.mk ((by rw [hg];exact Nat.ne_of_gt (blk_lt (g:=gb230) (o:=.cells #[.int .i64 0,.int .i64 0,.slice none 0 0,.int .i64 0,.int .u32 0] 37 (0,0)) (by (with_reducible repeat (first|refine blk_drewN ?_ _|refine blk_drew ?_|refine blk_alloc ?_ _));exact BK230.out)) : gb231 ≠ gb230))
             clear BK213
             clear BK214
             clear BK230
             clear HB
             have BK213:=n0_
             have BK214:=n1_
             have BK230:=n2_
             have HB:=n3_
             have BK231:=n4_
             have GW231:=n5_
             have GE231:=n6_
             have NB213_231:=n7_
             have NB231_213:=n8_
             have NB214_231:=n9_
             have NB231_214:=n10_
             have NB230_231:=n11_
             have NB231_230:=n12_
             clear n0_ n1_ n2_ n3_ n4_ n5_ n6_ n7_ n8_ n9_ n10_ n11_ n12_
             clear hb hbox hg
             refine hK.out _ _ ⟨(blk_cell BK213.out 0).trans rfl,(blk_cell BK213.out 1).trans rfl,(blk_cell BK213.out 2).trans rfl,(blk_cell BK213.out 3).trans rfl,(blk_cell BK213.out 4).trans rfl,(blk_cell BK214.out 0).trans rfl,(blk_cell BK214.out 1).trans rfl,(blk_cell BK214.out 2).trans rfl,(blk_cell BK214.out 3).trans rfl,(blk_cell BK214.out 4).trans rfl⟩ (fun hHeld=>?_)
             clear hK K
             refine norm_ (a':=?_) ?_ ?_
             rotate_left
             ·show Act.put _ (some 8) _ = _
              simp only [Act.put,List.setIfInBounds_toArray,List.set_cons_zero,List.set_cons_succ,i64_w,i32_w]
              rfl
             exact norm_ (by first|(simp only [putAll,Act.put,List.setIfInBounds_toArray,List.set_cons_zero,List.set_cons_succ];done)|(simp only [putAll,Act.put,List.setIfInBounds_toArray,List.set_cons_zero,List.set_cons_succ];rfl)) (hJ4_5 (gb230,gb231) _ ⟨hHeld,(by (with_reducible repeat (first|refine blk_drewN ?_ _|refine blk_drew ?_|refine blk_alloc ?_ _));exact BK213.out),(by (with_reducible repeat (first|refine blk_drewN ?_ _|refine blk_drew ?_|refine blk_alloc ?_ _));exact BK214.out),(by (with_reducible repeat (first|refine blk_drewN ?_ _|refine blk_drew ?_|refine blk_alloc ?_ _));exact BK230.out),(by (with_reducible repeat (first|refine blk_drewN ?_ _|refine blk_drew ?_|refine blk_alloc ?_ _));exact BK231.out),GW230.out,GE230.out,NB213_230.out,NB230_213.out,NB214_230.out,NB230_214.out,NB231_230.out,NB230_231.out,GW231.out,GE231.out,NB213_231.out,NB231_213.out,NB214_231.out,NB231_214.out,(by repeat (first|(with_reducible first|exact HB.out|apply below_alloc|apply pw_below_drewN|apply below_drew1|refine below_set ?_ GE213.out|refine below_set ?_ GE214.out|refine below_set ?_ GE230.out|refine below_set ?_ GE231.out)|exact HB.out))⟩)
          ·skip
           rintro v219 w16 ⟨hS_,h0_,h1_,h2_,h3_⟩
           have n0_ : Aside0 (Kd.S (Kd.slice 3 (Kd.int .i64)) 28 w16 w.heap.size (fun _=>True) v219 t218):=⟨h0_⟩
           have n1_ : Aside0 (w16.heap[gb213]? = some (.cells #[.int .i64 a0_0,.int .i64 a0_1,.slice A0_2 l0_2.length c0_2,.int .i64 a0_3,.int .u32 a0_4] 37 (0,0))):=⟨h1_⟩
           have n2_ : Aside0 (w16.heap[gb214]? = some (.cells #[.int .i64 a1_0,.int .i64 a1_1,.slice A1_2 l1_2.length c1_2,.int .i64 a1_3,.int .u32 a1_4] 37 (0,0))):=⟨h2_⟩
           have n3_ : Aside0 (Below w.heap.size w w16):=⟨h3_⟩
           clear BK213
           clear BK214
           clear HB
           clear h0_ h1_ h2_ h3_
           have HO220:=n0_
           have BK213:=n1_
           have BK214:=n2_
           have HB:=n3_
           clear n0_ n1_ n2_ n3_
           have hHeld : w16.cell? ⟨gb213,0,none⟩ = some (.int .i64 a0_0) ∧ w16.cell? ⟨gb213,1,none⟩ = some (.int .i64 a0_1) ∧ w16.cell? ⟨gb213,2,none⟩ = some (.slice A0_2 l0_2.length c0_2) ∧ w16.cell? ⟨gb213,3,none⟩ = some (.int .i64 a0_3) ∧ w16.cell? ⟨gb213,4,none⟩ = some (.int .u32 a0_4) ∧ w16.cell? ⟨gb214,0,none⟩ = some (.int .i64 a1_0) ∧ w16.cell? ⟨gb214,1,none⟩ = some (.int .i64 a1_1) ∧ w16.cell? ⟨gb214,2,none⟩ = some (.slice A1_2 l1_2.length c1_2) ∧ w16.cell? ⟨gb214,3,none⟩ = some (.int .i64 a1_3) ∧ w16.cell? ⟨gb214,4,none⟩ = some (.int .u32 a1_4):=hS_
           refine norm_ (a':=?_) ?_ ?_
           rotate_left
           ·simp only [putAll,Act.put,List.setIfInBounds_toArray,List.set_cons_zero,List.set_cons_succ]
            rfl
           refine three_ (i:=3) (j:=4) (k:=5) (Ni:=some 20) (Nj:=some 7) (Nk:=some 8) #[true,true,true,true,false,false,false,false] #[true,true,true,false,true,false,false,false] #[true,true,true,false,false,true,false,false] rfl rfl rfl rfl rfl rfl (three_of HT_.out (by kernel_rfl)) (by decide) (by decide) (by decide) (fun K hK=>?_) (fun K hK=>?_) (fun K hK=>?_)
           ·skip
            refine goes_ Try.func54 (by kernel_rfl) rfl #[.agg #[.int .i64 a1_0,.int .i64 a1_1,.slice A1_2 l1_2.length c1_2,.int .i64 a1_3,.int .u32 a1_4]] (by rfl) rfl rfl (by (try simp only [List.map_toArray,List.map_cons,List.map_nil]);first|done|rfl|(simp only [List.length_drop,List.length_take];rfl)) ?_
            with_reducible refine (least_Small.calls k a1_0 a1_1 _ _ l1_2 a1_3 a1_4 t223 t224 t225 t228 t229 _ ?side1 ?side2 A6.out).mono ?_
            (case side1=>repeat (first|exact (Kd.C_below HR1_2.out HB.out)|(with_reducible refine Kd.C_alloc ?_ _)|(with_reducible refine Kd.C_drewN ?_ _)|(with_reducible refine Kd.C_drew ?_)))
            (case side2=>exact HC1_2.out)
            rintro e w17 ⟨v226,rfl,ho0,hb⟩
            refine ⟨_,rfl,?_⟩
            have n0_:=Aside0.mk (Kd.S_elder' (by (with_reducible repeat (first|apply Kd.S_alloc|apply Kd.S_drewN|apply Kd.S_drew));exact HO220.out) (Kd.S_base ho0) hb)
            have n1_:=Aside0.mk (Kd.S_lower (Kd.S_new' ho0 (Kd.S_lt (by (with_reducible repeat (first|apply Kd.S_alloc|apply Kd.S_drewN|apply Kd.S_drew));exact HO220.out))) (below_size (by repeat (first|(with_reducible first|exact HB.out|apply below_alloc|apply pw_below_drewN|apply below_drew1|refine below_set ?_ GE213.out|refine below_set ?_ GE214.out)|exact HB.out))))
            have n2_:=Aside0.mk (blk_below (g:=gb213) (o:=.cells #[.int .i64 a0_0,.int .i64 a0_1,.slice A0_2 l0_2.length c0_2,.int .i64 a0_3,.int .u32 a0_4] 37 (0,0)) (by (with_reducible repeat (first|refine blk_drewN ?_ _|refine blk_drew ?_|refine blk_alloc ?_ _));exact BK213.out) hb)
            have n3_:=Aside0.mk (blk_below (g:=gb214) (o:=.cells #[.int .i64 a1_0,.int .i64 a1_1,.slice A1_2 l1_2.length c1_2,.int .i64 a1_3,.int .u32 a1_4] 37 (0,0)) (by (with_reducible repeat (first|refine blk_drewN ?_ _|refine blk_drew ?_|refine blk_alloc ?_ _));exact BK214.out) hb)
            have n4_:=Aside0.mk (below_step (by repeat (first|(with_reducible first|exact HB.out|apply below_alloc|apply pw_below_drewN|apply below_drew1|refine below_set ?_ GE213.out|refine below_set ?_ GE214.out)|exact HB.out)) hb)
            clear HO220
            clear BK213
            clear BK214
            clear HB
            have HO220:=n0_
            have HO227:=n1_
            have BK213:=n2_
            have BK214:=n3_
            have HB:=n4_
            clear n0_ n1_ n2_ n3_ n4_
            (try clear hb)
            (try clear hb2)
            (try clear hk)
            (try clear hi)
            (try clear ho0)
            refine hK.out _ _ ⟨(blk_cell BK213.out 0).trans rfl,(blk_cell BK213.out 1).trans rfl,(blk_cell BK213.out 2).trans rfl,(blk_cell BK213.out 3).trans rfl,(blk_cell BK213.out 4).trans rfl,(blk_cell BK214.out 0).trans rfl,(blk_cell BK214.out 1).trans rfl,(blk_cell BK214.out 2).trans rfl,(blk_cell BK214.out 3).trans rfl,(blk_cell BK214.out 4).trans rfl⟩ (fun hHeld=>?_)
            clear hK K
            refine norm_ (a':=?_) ?_ ?_
            rotate_left
            ·show Act.put _ (some 20) _ = _
             simp only [Act.put,List.setIfInBounds_toArray,List.set_cons_zero,List.set_cons_succ,i64_w,i32_w]
             rfl
            exact norm_ (by first|(simp only [putAll,Act.put,List.setIfInBounds_toArray,List.set_cons_zero,List.set_cons_succ];done)|(simp only [putAll,Act.put,List.setIfInBounds_toArray,List.set_cons_zero,List.set_cons_succ];rfl)) (hJ1_3 (v219,v226) _ ⟨hHeld,(by (with_reducible repeat (first|apply Kd.S_alloc|apply Kd.S_drewN|apply Kd.S_drew));exact Kd.S_mono HO220.out (fun _ hk=>hk.2)),(by (with_reducible repeat (first|apply Kd.S_alloc|apply Kd.S_drewN|apply Kd.S_drew));exact Kd.S_mono HO227.out (fun _ hk=>hk.2)),(by (with_reducible repeat (first|refine blk_drewN ?_ _|refine blk_drew ?_|refine blk_alloc ?_ _));exact BK213.out),(by (with_reducible repeat (first|refine blk_drewN ?_ _|refine blk_drew ?_|refine blk_alloc ?_ _));exact BK214.out),(by repeat (first|(with_reducible first|exact HB.out|apply below_alloc|apply pw_below_drewN|apply below_drew1|refine below_set ?_ GE213.out|refine below_set ?_ GE214.out)|exact HB.out))⟩)
           ·skip
            refine box_step ?hg (N:=7) ?hd (cs:=#[.int .i64 0,.int .i64 0,.slice none 0 0,.int .i64 0,.int .u32 0]) (t:=37) ?hr ?_;(case hd=>rfl);(case hg=>rfl);(case hr=>first|(go_simp;done)|(go_simp;rfl))
            intro gb230 hg w17 hbox hb
            have n0_:=Aside0.mk (Kd.S_below (by (with_reducible repeat (first|apply Kd.S_alloc|apply Kd.S_drewN|apply Kd.S_drew));exact HO220.out) hb)
            have n1_:=Aside0.mk (blk_below (g:=gb213) (o:=.cells #[.int .i64 a0_0,.int .i64 a0_1,.slice A0_2 l0_2.length c0_2,.int .i64 a0_3,.int .u32 a0_4] 37 (0,0)) (by (with_reducible repeat (first|refine blk_drewN ?_ _|refine blk_drew ?_|refine blk_alloc ?_ _));exact BK213.out) hb)
            have n2_:=Aside0.mk (blk_below (g:=gb214) (o:=.cells #[.int .i64 a1_0,.int .i64 a1_1,.slice A1_2 l1_2.length c1_2,.int .i64 a1_3,.int .u32 a1_4] 37 (0,0)) (by (with_reducible repeat (first|refine blk_drewN ?_ _|refine blk_drew ?_|refine blk_alloc ?_ _));exact BK214.out) hb)
            have n3_:=Aside0.mk (below_step (by repeat (first|(with_reducible first|exact HB.out|apply below_alloc|apply pw_below_drewN|apply below_drew1|refine below_set ?_ GE213.out|refine below_set ?_ GE214.out)|exact HB.out)) hb)
            have n4_:=Aside0.mk (hbox)
            have n5_:=Aside0.mk ((by rw [hg];exact (below_size (by repeat (first|(with_reducible first|exact HB.out|apply below_alloc|apply pw_below_drewN|apply below_drew1|refine below_set ?_ GE213.out|refine below_set ?_ GE214.out)|exact HB.out))) : w.heap.size ≤ gb230))
            have n6_:=Aside0.mk ((by rw [hg];exact (below_size (by repeat (first|(with_reducible first|exact HB.out|apply below_alloc|apply pw_below_drewN|apply below_drew1|refine below_set ?_ GE213.out|refine below_set ?_ GE214.out)|exact HB.out))) : w.heap.size ≤ gb230))
            have n7_:=Aside0.mk ((by rw [hg];exact Nat.ne_of_lt (blk_lt (g:=gb213) (o:=.cells #[.int .i64 a0_0,.int .i64 a0_1,.slice A0_2 l0_2.length c0_2,.int .i64 a0_3,.int .u32 a0_4] 37 (0,0)) (by (with_reducible repeat (first|refine blk_drewN ?_ _|refine blk_drew ?_|refine blk_alloc ?_ _));exact BK213.out)) : gb213 ≠ gb230))
            have n8_:=Aside0.mk ((by rw [hg];exact Nat.ne_of_gt (blk_lt (g:=gb213) (o:=.cells #[.int .i64 a0_0,.int .i64 a0_1,.slice A0_2 l0_2.length c0_2,.int .i64 a0_3,.int .u32 a0_4] 37 (0,0)) (by (with_reducible repeat (first|refine blk_drewN ?_ _|refine blk_drew ?_|refine blk_alloc ?_ _));exact BK213.out)) : gb230 ≠ gb213))
            have n9_:=Aside0.mk ((by rw [hg];exact Nat.ne_of_lt (blk_lt (g:=gb214) (o:=.cells #[.int .i64 a1_0,.int .i64 a1_1,.slice A1_2 l1_2.length c1_2,.int .i64 a1_3,.int .u32 a1_4] 37 (0,0)) (by (with_reducible repeat (first|refine blk_drewN ?_ _|refine blk_drew ?_|refine blk_alloc ?_ _));exact BK214.out)) : gb214 ≠ gb230))
            have n10_:=Aside0.mk ((by rw [hg];exact Nat.ne_of_gt (blk_lt (g:=gb214) (o:=.cells #[.int .i64 a1_0,.int .i64 a1_1,.slice A1_2 l1_2.length c1_2,.int .i64 a1_3,.int .u32 a1_4] 37 (0,0)) (by (with_reducible repeat (first|refine blk_drewN ?_ _|refine blk_drew ?_|refine blk_alloc ?_ _));exact BK214.out)) : gb230 ≠ gb214))
            clear HO220
            clear BK213
            clear BK214
            clear HB
            have HO220:=n0_
            have BK213:=n1_
            have BK214:=n2_
            have HB:=n3_
            have BK230:=n4_
            have GW230:=n5_
            have GE230:=n6_
            have NB213_230:=n7_
            have NB230_213:=n8_
            have NB214_230:=n9_
            have NB230_214:=n10_
            clear n0_ n1_ n2_ n3_ n4_ n5_ n6_ n7_ n8_ n9_ n10_
            clear hb hbox hg
            refine hK.out _ _ ⟨(blk_cell BK213.out 0).trans rfl,(blk_cell BK213.out 1).trans rfl,(blk_cell BK213.out 2).trans rfl,(blk_cell BK213.out 3).trans rfl,(blk_cell BK213.out 4).trans rfl,(blk_cell BK214.out 0).trans rfl,(blk_cell BK214.out 1).trans rfl,(blk_cell BK214.out 2).trans rfl,(blk_cell BK214.out 3).trans rfl,(blk_cell BK214.out 4).trans rfl⟩ (fun hHeld=>?_)
            clear hK K
            refine norm_ (a':=?_) ?_ ?_
            rotate_left
            ·show Act.put _ (some 7) _ = _
             simp only [Act.put,List.setIfInBounds_toArray,List.set_cons_zero,List.set_cons_succ,i64_w,i32_w]
             rfl
            exact norm_ (by first|(simp only [putAll,Act.put,List.setIfInBounds_toArray,List.set_cons_zero,List.set_cons_succ];done)|(simp only [putAll,Act.put,List.setIfInBounds_toArray,List.set_cons_zero,List.set_cons_succ];rfl)) (hJ1_4 (v219,gb230) _ ⟨hHeld,(by (with_reducible repeat (first|apply Kd.S_alloc|apply Kd.S_drewN|apply Kd.S_drew));exact HO220.out),(by (with_reducible repeat (first|refine blk_drewN ?_ _|refine blk_drew ?_|refine blk_alloc ?_ _));exact BK213.out),(by (with_reducible repeat (first|refine blk_drewN ?_ _|refine blk_drew ?_|refine blk_alloc ?_ _));exact BK214.out),(by (with_reducible repeat (first|refine blk_drewN ?_ _|refine blk_drew ?_|refine blk_alloc ?_ _));exact BK230.out),GW230.out,GE230.out,NB213_230.out,NB230_213.out,NB214_230.out,NB230_214.out,(by repeat (first|(with_reducible first|exact HB.out|apply below_alloc|apply pw_below_drewN|apply below_drew1|refine below_set ?_ GE213.out|refine below_set ?_ GE214.out|refine below_set ?_ GE230.out)|exact HB.out))⟩)
           ·skip
            refine box_step ?hg (N:=8) ?hd (cs:=#[.int .i64 0,.int .i64 0,.slice none 0 0,.int .i64 0,.int .u32 0]) (t:=37) ?hr ?_;(case hd=>rfl);(case hg=>rfl);(case hr=>first|(go_simp;done)|(go_simp;rfl))
            intro gb231 hg w17 hbox hb
            have n0_:=Aside0.mk (Kd.S_below (by (with_reducible repeat (first|apply Kd.S_alloc|apply Kd.S_drewN|apply Kd.S_drew));exact HO220.out) hb)
            have n1_:=Aside0.mk (blk_below (g:=gb213) (o:=.cells #[.int .i64 a0_0,.int .i64 a0_1,.slice A0_2 l0_2.length c0_2,.int .i64 a0_3,.int .u32 a0_4] 37 (0,0)) (by (with_reducible repeat (first|refine blk_drewN ?_ _|refine blk_drew ?_|refine blk_alloc ?_ _));exact BK213.out) hb)
            have n2_:=Aside0.mk (blk_below (g:=gb214) (o:=.cells #[.int .i64 a1_0,.int .i64 a1_1,.slice A1_2 l1_2.length c1_2,.int .i64 a1_3,.int .u32 a1_4] 37 (0,0)) (by (with_reducible repeat (first|refine blk_drewN ?_ _|refine blk_drew ?_|refine blk_alloc ?_ _));exact BK214.out) hb)
            have n3_:=Aside0.mk (below_step (by repeat (first|(with_reducible first|exact HB.out|apply below_alloc|apply pw_below_drewN|apply below_drew1|refine below_set ?_ GE213.out|refine below_set ?_ GE214.out)|exact HB.out)) hb)
            have n4_:=Aside0.mk (hbox)
            have n5_:=Aside0.mk ((by rw [hg];exact (below_size (by repeat (first|(with_reducible first|exact HB.out|apply below_alloc|apply pw_below_drewN|apply below_drew1|refine below_set ?_ GE213.out|refine below_set ?_ GE214.out)|exact HB.out))) : w.heap.size ≤ gb231))
            have n6_:=Aside0.mk ((by rw [hg];exact (below_size (by repeat (first|(with_reducible first|exact HB.out|apply below_alloc|apply pw_below_drewN|apply below_drew1|refine below_set ?_ GE213.out|refine below_set ?_ GE214.out)|exact HB.out))) : w.heap.size ≤ gb231))
            have n7_:=Aside0.mk ((by rw [hg];exact Nat.ne_of_lt (blk_lt (g:=gb213) (o:=.cells #[.int .i64 a0_0,.int .i64 a0_1,.slice A0_2 l0_2.length c0_2,.int .i64 a0_3,.int .u32 a0_4] 37 (0,0)) (by (with_reducible repeat (first|refine blk_drewN ?_ _|refine blk_drew ?_|refine blk_alloc ?_ _));exact BK213.out)) : gb213 ≠ gb231))
            have n8_:=Aside0.mk ((by rw [hg];exact Nat.ne_of_gt (blk_lt (g:=gb213) (o:=.cells #[.int .i64 a0_0,.int .i64 a0_1,.slice A0_2 l0_2.length c0_2,.int .i64 a0_3,.int .u32 a0_4] 37 (0,0)) (by (with_reducible repeat (first|refine blk_drewN ?_ _|refine blk_drew ?_|refine blk_alloc ?_ _));exact BK213.out)) : gb231 ≠ gb213))
            have n9_:=Aside0.mk ((by rw [hg];exact Nat.ne_of_lt (blk_lt (g:=gb214) (o:=.cells #[.int .i64 a1_0,.int .i64 a1_1,.slice A1_2 l1_2.length c1_2,.int .i64 a1_3,.int .u32 a1_4] 37 (0,0)) (by (with_reducible repeat (first|refine blk_drewN ?_ _|refine blk_drew ?_|refine blk_alloc ?_ _));exact BK214.out)) : gb214 ≠ gb231))
            have n10_:=Aside0.mk ((by rw [hg];exact Nat.ne_of_gt (blk_lt (g:=gb214) (o:=.cells #[.int .i64 a1_0,.int .i64 a1_1,.slice A1_2 l1_2.length c1_2,.int .i64 a1_3,.int .u32 a1_4] 37 (0,0)) (by (with_reducible repeat (first|refine blk_drewN ?_ _|refine blk_drew ?_|refine blk_alloc ?_ _));exact BK214.out)) : gb231 ≠ gb214))
            clear HO220
            clear BK213
            clear BK214
            clear HB
            have HO220:=n0_
            have BK213:=n1_
            have BK214:=n2_
            have HB:=n3_
            have BK231:=n4_
            have GW231:=n5_
            have GE231:=n6_
            have NB213_231:=n7_
            have NB231_213:=n8_
            have NB214_231:=n9_
            have NB231_214:=n10_
            clear n0_ n1_ n2_ n3_ n4_ n5_ n6_ n7_ n8_ n9_ n10_
            clear hb hbox hg
            refine hK.out _ _ ⟨(blk_cell BK213.out 0).trans rfl,(blk_cell BK213.out 1).trans rfl,(blk_cell BK213.out 2).trans rfl,(blk_cell BK213.out 3).trans rfl,(blk_cell BK213.out 4).trans rfl,(blk_cell BK214.out 0).trans rfl,(blk_cell BK214.out 1).trans rfl,(blk_cell BK214.out 2).trans rfl,(blk_cell BK214.out 3).trans rfl,(blk_cell BK214.out 4).trans rfl⟩ (fun hHeld=>?_)
            clear hK K
            refine norm_ (a':=?_) ?_ ?_
            rotate_left
            ·show Act.put _ (some 8) _ = _
             simp only [Act.put,List.setIfInBounds_toArray,List.set_cons_zero,List.set_cons_succ,i64_w,i32_w]
             rfl
            exact norm_ (by first|(simp only [putAll,Act.put,List.setIfInBounds_toArray,List.set_cons_zero,List.set_cons_succ];done)|(simp only [putAll,Act.put,List.setIfInBounds_toArray,List.set_cons_zero,List.set_cons_succ];rfl)) (hJ1_5 (v219,gb231) _ ⟨hHeld,(by (with_reducible repeat (first|apply Kd.S_alloc|apply Kd.S_drewN|apply Kd.S_drew));exact HO220.out),(by (with_reducible repeat (first|refine blk_drewN ?_ _|refine blk_drew ?_|refine blk_alloc ?_ _));exact BK213.out),(by (with_reducible repeat (first|refine blk_drewN ?_ _|refine blk_drew ?_|refine blk_alloc ?_ _));exact BK214.out),(by (with_reducible repeat (first|refine blk_drewN ?_ _|refine blk_drew ?_|refine blk_alloc ?_ _));exact BK231.out),GW231.out,GE231.out,NB213_231.out,NB231_213.out,NB214_231.out,NB231_214.out,(by repeat (first|(with_reducible first|exact HB.out|apply below_alloc|apply pw_below_drewN|apply below_drew1|refine below_set ?_ GE213.out|refine below_set ?_ GE214.out|refine below_set ?_ GE231.out)|exact HB.out))⟩)
         ·skip
          rintro ⟨gb230,gb231⟩ w17 ⟨hS_,h0_,h1_,h2_,h3_,h4_,h5_,h6_,h7_,h8_,h9_,h10_,h11_,h12_,h13_,h14_,h15_,h16_,h17_,h18_⟩
          have n0_ : Aside0 (w17.heap[gb213]? = some (.cells #[.int .i64 a0_0,.int .i64 a0_1,.slice A0_2 l0_2.length c0_2,.int .i64 a0_3,.int .u32 a0_4] 37 (0,0))):=⟨h0_⟩
          have n1_ : Aside0 (w17.heap[gb214]? = some (.cells #[.int .i64 a1_0,.int .i64 a1_1,.slice A1_2 l1_2.length c1_2,.int .i64 a1_3,.int .u32 a1_4] 37 (0,0))):=⟨h1_⟩
          have n2_ : Aside0 (w17.heap[gb230]? = some (.cells #[.int .i64 0,.int .i64 0,.slice none 0 0,.int .i64 0,.int .u32 0] 37 (0,0))):=⟨h2_⟩
          have n3_ : Aside0 (w17.heap[gb231]? = some (.cells #[.int .i64 0,.int .i64 0,.slice none 0 0,.int .i64 0,.int .u32 0] 37 (0,0))):=⟨h3_⟩
          have n4_ : Aside0 (w.heap.size ≤ gb230):=⟨h4_⟩
          have n5_ : Aside0 (w.heap.size ≤ gb230):=⟨h5_⟩
          have n6_ : Aside0 (gb213 ≠ gb230):=⟨h6_⟩
          have n7_ : Aside0 (gb230 ≠ gb213):=⟨h7_⟩
          have n8_ : Aside0 (gb214 ≠ gb230):=⟨h8_⟩
          have n9_ : Aside0 (gb230 ≠ gb214):=⟨h9_⟩
          have n10_ : Aside0 (gb231 ≠ gb230):=⟨h10_⟩
          have n11_ : Aside0 (gb230 ≠ gb231):=⟨h11_⟩
          have n12_ : Aside0 (w.heap.size ≤ gb231):=⟨h12_⟩
          have n13_ : Aside0 (w.heap.size ≤ gb231):=⟨h13_⟩
          have n14_ : Aside0 (gb213 ≠ gb231):=⟨h14_⟩
          have n15_ : Aside0 (gb231 ≠ gb213):=⟨h15_⟩
          have n16_ : Aside0 (gb214 ≠ gb231):=⟨h16_⟩
          have n17_ : Aside0 (gb231 ≠ gb214):=⟨h17_⟩
          have n18_ : Aside0 (Below w.heap.size w w17):=⟨h18_⟩
          clear BK213
          clear BK214
          clear HB
          clear h0_ h1_ h2_ h3_ h4_ h5_ h6_ h7_ h8_ h9_ h10_ h11_ h12_ h13_ h14_ h15_ h16_ h17_ h18_
          have BK213:=n0_
          have BK214:=n1_
          have BK230:=n2_
          have BK231:=n3_
          have GW230:=n4_
          have GE230:=n5_
          have NB213_230:=n6_
          have NB230_213:=n7_
          have NB214_230:=n8_
          have NB230_214:=n9_
          have NB231_230:=n10_
          have NB230_231:=n11_
          have GW231:=n12_
          have GE231:=n13_
          have NB213_231:=n14_
          have NB231_213:=n15_
          have NB214_231:=n16_
          have NB231_214:=n17_
          have HB:=n18_
          clear n0_ n1_ n2_ n3_ n4_ n5_ n6_ n7_ n8_ n9_ n10_ n11_ n12_ n13_ n14_ n15_ n16_ n17_ n18_
          have hHeld : w17.cell? ⟨gb213,0,none⟩ = some (.int .i64 a0_0) ∧ w17.cell? ⟨gb213,1,none⟩ = some (.int .i64 a0_1) ∧ w17.cell? ⟨gb213,2,none⟩ = some (.slice A0_2 l0_2.length c0_2) ∧ w17.cell? ⟨gb213,3,none⟩ = some (.int .i64 a0_3) ∧ w17.cell? ⟨gb213,4,none⟩ = some (.int .u32 a0_4) ∧ w17.cell? ⟨gb214,0,none⟩ = some (.int .i64 a1_0) ∧ w17.cell? ⟨gb214,1,none⟩ = some (.int .i64 a1_1) ∧ w17.cell? ⟨gb214,2,none⟩ = some (.slice A1_2 l1_2.length c1_2) ∧ w17.cell? ⟨gb214,3,none⟩ = some (.int .i64 a1_3) ∧ w17.cell? ⟨gb214,4,none⟩ = some (.int .u32 a1_4):=hS_
          refine norm_ (a':=?_) ?_ ?_
          rotate_left
          ·simp only [putAll,Act.put,List.setIfInBounds_toArray,List.set_cons_zero,List.set_cons_succ]
           rfl
          refine one_ (i:=1) (N:=some 18) #[true,true,true,false,true,true,false,false] rfl rfl (one_of HT_.out (by kernel_rfl)) (by decide) (fun K hK=>?_)
          refine goes_ Try.func54 (by kernel_rfl) rfl #[.agg #[.int .i64 a0_0,.int .i64 a0_1,.slice A0_2 l0_2.length c0_2,.int .i64 a0_3,.int .u32 a0_4]] (by rfl) rfl rfl (by (try simp only [List.map_toArray,List.map_cons,List.map_nil]);first|done|rfl|(simp only [List.length_drop,List.length_take];rfl)) ?_
          with_reducible refine (least_Small.calls k a0_0 a0_1 _ _ l0_2 a0_3 a0_4 t216 t217 t218 t221 t222 _ ?side1 ?side2 A5.out).mono ?_
          (case side1=>repeat (first|exact (Kd.C_below HR0_2.out HB.out)|(with_reducible refine Kd.C_alloc ?_ _)|(with_reducible refine Kd.C_drewN ?_ _)|(with_reducible refine Kd.C_drew ?_)))
          (case side2=>exact HC0_2.out)
          rintro e w18 ⟨v219,rfl,ho0,hb⟩
          refine ⟨_,rfl,?_⟩
          have n0_:=Aside0.mk (Kd.S_lower ho0 (below_size (by repeat (first|(with_reducible first|exact HB.out|apply below_alloc|apply pw_below_drewN|apply below_drew1|refine below_set ?_ GE213.out|refine below_set ?_ GE214.out|refine below_set ?_ GE230.out|refine below_set ?_ GE231.out)|exact HB.out))))
          have n1_:=Aside0.mk (blk_below (g:=gb213) (o:=.cells #[.int .i64 a0_0,.int .i64 a0_1,.slice A0_2 l0_2.length c0_2,.int .i64 a0_3,.int .u32 a0_4] 37 (0,0)) (by (with_reducible repeat (first|refine blk_drewN ?_ _|refine blk_drew ?_|refine blk_alloc ?_ _));exact BK213.out) hb)
          have n2_:=Aside0.mk (blk_below (g:=gb214) (o:=.cells #[.int .i64 a1_0,.int .i64 a1_1,.slice A1_2 l1_2.length c1_2,.int .i64 a1_3,.int .u32 a1_4] 37 (0,0)) (by (with_reducible repeat (first|refine blk_drewN ?_ _|refine blk_drew ?_|refine blk_alloc ?_ _));exact BK214.out) hb)
          have n3_:=Aside0.mk (blk_below (g:=gb230) (o:=.cells #[.int .i64 0,.int .i64 0,.slice none 0 0,.int .i64 0,.int .u32 0] 37 (0,0)) (by (with_reducible repeat (first|refine blk_drewN ?_ _|refine blk_drew ?_|refine blk_alloc ?_ _));exact BK230.out) hb)
          have n4_:=Aside0.mk (blk_below (g:=gb231) (o:=.cells #[.int .i64 0,.int .i64 0,.slice none 0 0,.int .i64 0,.int .u32 0] 37 (0,0)) (by (with_reducible repeat (first|refine blk_drewN ?_ _|refine blk_drew ?_|refine blk_alloc ?_ _));exact BK231.out) hb)
          have n5_:=Aside0.mk (below_step (by repeat (first|(with_reducible first|exact HB.out|apply below_alloc|apply pw_below_drewN|apply below_drew1|refine below_set ?_ GE213.out|refine below_set ?_ GE214.out|refine below_set ?_ GE230.out|refine below_set ?_ GE231.out)|exact HB.out)) hb)
          clear BK213
          clear BK214
          clear BK230
          clear BK231
          clear HB
          have HO220:=n0_
          have BK213:=n1_
          have BK214:=n2_
          have BK230:=n3_
          have BK231:=n4_
          have HB:=n5_
          clear n0_ n1_ n2_ n3_ n4_ n5_
          (try clear hb)
          (try clear hb2)
          (try clear hk)
          (try clear hi)
          (try clear ho0)
          refine hK.out _ _ ⟨(blk_cell BK213.out 0).trans rfl,(blk_cell BK213.out 1).trans rfl,(blk_cell BK213.out 2).trans rfl,(blk_cell BK213.out 3).trans rfl,(blk_cell BK213.out 4).trans rfl,(blk_cell BK214.out 0).trans rfl,(blk_cell BK214.out 1).trans rfl,(blk_cell BK214.out 2).trans rfl,(blk_cell BK214.out 3).trans rfl,(blk_cell BK214.out 4).trans rfl⟩ (fun hHeld=>?_)
          clear hK K
          refine norm_ (a':=?_) ?_ ?_
          rotate_left
          ·show Act.put _ (some 18) _ = _
           simp only [Act.put,List.setIfInBounds_toArray,List.set_cons_zero,List.set_cons_succ,i64_w,i32_w]
           rfl
          exact norm_ (by first|(simp only [putAll,Act.put,List.setIfInBounds_toArray,List.set_cons_zero,List.set_cons_succ];done)|(simp only [putAll,Act.put,List.setIfInBounds_toArray,List.set_cons_zero,List.set_cons_succ];rfl)) (hJ1_4_5 (v219,gb230,gb231) _ ⟨hHeld,(by (with_reducible repeat (first|apply Kd.S_alloc|apply Kd.S_drewN|apply Kd.S_drew));exact HO220.out),(by (with_reducible repeat (first|refine blk_drewN ?_ _|refine blk_drew ?_|refine blk_alloc ?_ _));exact BK213.out),(by (with_reducible repeat (first|refine blk_drewN ?_ _|refine blk_drew ?_|refine blk_alloc ?_ _));exact BK214.out),(by (with_reducible repeat (first|refine blk_drewN ?_ _|refine blk_drew ?_|refine blk_alloc ?_ _));exact BK230.out),(by (with_reducible repeat (first|refine blk_drewN ?_ _|refine blk_drew ?_|refine blk_alloc ?_ _));exact BK231.out),GW230.out,GE230.out,NB213_230.out,NB230_213.out,NB214_230.out,NB230_214.out,NB231_230.out,NB230_231.out,GW231.out,GE231.out,NB213_231.out,NB231_213.out,NB214_231.out,NB231_214.out,(by repeat (first|(with_reducible first|exact HB.out|apply below_alloc|apply pw_below_drewN|apply below_drew1|refine below_set ?_ GE213.out|refine below_set ?_ GE214.out|refine below_set ?_ GE230.out|refine below_set ?_ GE231.out)|exact HB.out))⟩)
        ·skip
         rintro ⟨v219,gb231⟩ w17 ⟨hS_,h0_,h1_,h2_,h3_,h4_,h5_,h6_,h7_,h8_,h9_,h10_⟩
         have n0_ : Aside0 (Kd.S (Kd.slice 3 (Kd.int .i64)) 28 w17 w.heap.size (fun _=>True) v219 t218):=⟨h0_⟩
         have n1_ : Aside0 (w17.heap[gb213]? = some (.cells #[.int .i64 a0_0,.int .i64 a0_1,.slice A0_2 l0_2.length c0_2,.int .i64 a0_3,.int .u32 a0_4] 37 (0,0))):=⟨h1_⟩
         have n2_ : Aside0 (w17.heap[gb214]? = some (.cells #[.int .i64 a1_0,.int .i64 a1_1,.slice A1_2 l1_2.length c1_2,.int .i64 a1_3,.int .u32 a1_4] 37 (0,0))):=⟨h2_⟩
         have n3_ : Aside0 (w17.heap[gb231]? = some (.cells #[.int .i64 0,.int .i64 0,.slice none 0 0,.int .i64 0,.int .u32 0] 37 (0,0))):=⟨h3_⟩
         have n4_ : Aside0 (w.heap.size ≤ gb231):=⟨h4_⟩
         have n5_ : Aside0 (w.heap.size ≤ gb231):=⟨h5_⟩
         have n6_ : Aside0 (gb213 ≠ gb231):=⟨h6_⟩
         have n7_ : Aside0 (gb231 ≠ gb213):=⟨h7_⟩
         have n8_ : Aside0 (gb214 ≠ gb231):=⟨h8_⟩
         have n9_ : Aside0 (gb231 ≠ gb214):=⟨h9_⟩
         have n10_ : Aside0 (Below w.heap.size w w17):=⟨h10_⟩
         clear BK213
         clear BK214
         clear HB
         clear h0_ h1_ h2_ h3_ h4_ h5_ h6_ h7_ h8_ h9_ h10_
         have HO220:=n0_
         have BK213:=n1_
         have BK214:=n2_
         have BK231:=n3_
         have GW231:=n4_
         have GE231:=n5_
         have NB213_231:=n6_
         have NB231_213:=n7_
         have NB214_231:=n8_
         have NB231_214:=n9_
         have HB:=n10_
         clear n0_ n1_ n2_ n3_ n4_ n5_ n6_ n7_ n8_ n9_ n10_
         have hHeld : w17.cell? ⟨gb213,0,none⟩ = some (.int .i64 a0_0) ∧ w17.cell? ⟨gb213,1,none⟩ = some (.int .i64 a0_1) ∧ w17.cell? ⟨gb213,2,none⟩ = some (.slice A0_2 l0_2.length c0_2) ∧ w17.cell? ⟨gb213,3,none⟩ = some (.int .i64 a0_3) ∧ w17.cell? ⟨gb213,4,none⟩ = some (.int .u32 a0_4) ∧ w17.cell? ⟨gb214,0,none⟩ = some (.int .i64 a1_0) ∧ w17.cell? ⟨gb214,1,none⟩ = some (.int .i64 a1_1) ∧ w17.cell? ⟨gb214,2,none⟩ = some (.slice A1_2 l1_2.length c1_2) ∧ w17.cell? ⟨gb214,3,none⟩ = some (.int .i64 a1_3) ∧ w17.cell? ⟨gb214,4,none⟩ = some (.int .u32 a1_4):=hS_
         refine norm_ (a':=?_) ?_ ?_
         rotate_left
         ·simp only [putAll,Act.put,List.setIfInBounds_toArray,List.set_cons_zero,List.set_cons_succ]
          rfl
         refine two_ (i:=3) (j:=4) (Ni:=some 20) (Nj:=some 7) #[true,true,true,true,false,true,false,false] #[true,true,true,false,true,true,false,false] rfl rfl rfl rfl (two_of HT_.out (by kernel_rfl)) (by decide) (by decide) (fun K hK=>?_) (fun K hK=>?_)
         ·skip
          refine goes_ Try.func54 (by kernel_rfl) rfl #[.agg #[.int .i64 a1_0,.int .i64 a1_1,.slice A1_2 l1_2.length c1_2,.int .i64 a1_3,.int .u32 a1_4]] (by rfl) rfl rfl (by (try simp only [List.map_toArray,List.map_cons,List.map_nil]);first|done|rfl|(simp only [List.length_drop,List.length_take];rfl)) ?_
          with_reducible refine (least_Small.calls k a1_0 a1_1 _ _ l1_2 a1_3 a1_4 t223 t224 t225 t228 t229 _ ?side1 ?side2 A6.out).mono ?_
          (case side1=>repeat (first|exact (Kd.C_below HR1_2.out HB.out)|(with_reducible refine Kd.C_alloc ?_ _)|(with_reducible refine Kd.C_drewN ?_ _)|(with_reducible refine Kd.C_drew ?_)))
          (case side2=>exact HC1_2.out)
          rintro e w18 ⟨v226,rfl,ho0,hb⟩
          refine ⟨_,rfl,?_⟩
          have n0_:=Aside0.mk (Kd.S_elder' (by (with_reducible repeat (first|apply Kd.S_alloc|apply Kd.S_drewN|apply Kd.S_drew));exact HO220.out) (Kd.S_base ho0) hb)
          have n1_:=Aside0.mk (Kd.S_lower (Kd.S_new' ho0 (Kd.S_lt (by (with_reducible repeat (first|apply Kd.S_alloc|apply Kd.S_drewN|apply Kd.S_drew));exact HO220.out))) (below_size (by repeat (first|(with_reducible first|exact HB.out|apply below_alloc|apply pw_below_drewN|apply below_drew1|refine below_set ?_ GE213.out|refine below_set ?_ GE214.out|refine below_set ?_ GE231.out)|exact HB.out))))
          have n2_:=Aside0.mk (blk_below (g:=gb213) (o:=.cells #[.int .i64 a0_0,.int .i64 a0_1,.slice A0_2 l0_2.length c0_2,.int .i64 a0_3,.int .u32 a0_4] 37 (0,0)) (by (with_reducible repeat (first|refine blk_drewN ?_ _|refine blk_drew ?_|refine blk_alloc ?_ _));exact BK213.out) hb)
          have n3_:=Aside0.mk (blk_below (g:=gb214) (o:=.cells #[.int .i64 a1_0,.int .i64 a1_1,.slice A1_2 l1_2.length c1_2,.int .i64 a1_3,.int .u32 a1_4] 37 (0,0)) (by (with_reducible repeat (first|refine blk_drewN ?_ _|refine blk_drew ?_|refine blk_alloc ?_ _));exact BK214.out) hb)
          have n4_:=Aside0.mk (blk_below (g:=gb231) (o:=.cells #[.int .i64 0,.int .i64 0,.slice none 0 0,.int .i64 0,.int .u32 0] 37 (0,0)) (by (with_reducible repeat (first|refine blk_drewN ?_ _|refine blk_drew ?_|refine blk_alloc ?_ _));exact BK231.out) hb)
          have n5_:=Aside0.mk (below_step (by repeat (first|(with_reducible first|exact HB.out|apply below_alloc|apply pw_below_drewN|apply below_drew1|refine below_set ?_ GE213.out|refine below_set ?_ GE214.out|refine below_set ?_ GE231.out)|exact HB.out)) hb)
          clear HO220
          clear BK213
          clear BK214
          clear BK231
          clear HB
          have HO220:=n0_
          have HO227:=n1_
          have BK213:=n2_
          have BK214:=n3_
          have BK231:=n4_
          have HB:=n5_
          clear n0_ n1_ n2_ n3_ n4_ n5_
          (try clear hb)
          (try clear hb2)
          (try clear hk)
          (try clear hi)
          (try clear ho0)
          refine hK.out _ _ ⟨(blk_cell BK213.out 0).trans rfl,(blk_cell BK213.out 1).trans rfl,(blk_cell BK213.out 2).trans rfl,(blk_cell BK213.out 3).trans rfl,(blk_cell BK213.out 4).trans rfl,(blk_cell BK214.out 0).trans rfl,(blk_cell BK214.out 1).trans rfl,(blk_cell BK214.out 2).trans rfl,(blk_cell BK214.out 3).trans rfl,(blk_cell BK214.out 4).trans rfl⟩ (fun hHeld=>?_)
          clear hK K
          refine norm_ (a':=?_) ?_ ?_
          rotate_left
          ·show Act.put _ (some 20) _ = _
           simp only [Act.put,List.setIfInBounds_toArray,List.set_cons_zero,List.set_cons_succ,i64_w,i32_w]
           rfl
          exact norm_ (by first|(simp only [putAll,Act.put,List.setIfInBounds_toArray,List.set_cons_zero,List.set_cons_succ];done)|(simp only [putAll,Act.put,List.setIfInBounds_toArray,List.set_cons_zero,List.set_cons_succ];rfl)) (hJ1_3_5 (v219,v226,gb231) _ ⟨hHeld,(by (with_reducible repeat (first|apply Kd.S_alloc|apply Kd.S_drewN|apply Kd.S_drew));exact Kd.S_mono HO220.out (fun _ hk=>hk.2)),(by (with_reducible repeat (first|apply Kd.S_alloc|apply Kd.S_drewN|apply Kd.S_drew));exact Kd.S_mono HO227.out (fun _ hk=>hk.2)),(by (with_reducible repeat (first|refine blk_drewN ?_ _|refine blk_drew ?_|refine blk_alloc ?_ _));exact BK213.out),(by (with_reducible repeat (first|refine blk_drewN ?_ _|refine blk_drew ?_|refine blk_alloc ?_ _));exact BK214.out),(by (with_reducible repeat (first|refine blk_drewN ?_ _|refine blk_drew ?_|refine blk_alloc ?_ _));exact BK231.out),GW231.out,GE231.out,NB213_231.out,NB231_213.out,NB214_231.out,NB231_214.out,(by repeat (first|(with_reducible first|exact HB.out|apply below_alloc|apply pw_below_drewN|apply below_drew1|refine below_set ?_ GE213.out|refine below_set ?_ GE214.out|refine below_set ?_ GE231.out)|exact HB.out))⟩)
         ·skip
          refine box_step ?hg (N:=7) ?hd (cs:=#[.int .i64 0,.int .i64 0,.slice none 0 0,.int .i64 0,.int .u32 0]) (t:=37) ?hr ?_;(case hd=>rfl);(case hg=>rfl);(case hr=>first|(go_simp;done)|(go_simp;rfl))
          intro gb230 hg w18 hbox hb
          have n0_:=Aside0.mk (Kd.S_below (by (with_reducible repeat (first|apply Kd.S_alloc|apply Kd.S_drewN|apply Kd.S_drew));exact HO220.out) hb)
          have n1_:=Aside0.mk (blk_below (g:=gb213) (o:=.cells #[.int .i64 a0_0,.int .i64 a0_1,.slice A0_2 l0_2.length c0_2,.int .i64 a0_3,.int .u32 a0_4] 37 (0,0)) (by (with_reducible repeat (first|refine blk_drewN ?_ _|refine blk_drew ?_|refine blk_alloc ?_ _));exact BK213.out) hb)
          have n2_:=Aside0.mk (blk_below (g:=gb214) (o:=.cells #[.int .i64 a1_0,.int .i64 a1_1,.slice A1_2 l1_2.length c1_2,.int .i64 a1_3,.int .u32 a1_4] 37 (0,0)) (by (with_reducible repeat (first|refine blk_drewN ?_ _|refine blk_drew ?_|refine blk_alloc ?_ _));exact BK214.out) hb)
          have n3_:=Aside0.mk (blk_below (g:=gb231) (o:=.cells #[.int .i64 0,.int .i64 0,.slice none 0 0,.int .i64 0,.int .u32 0] 37 (0,0)) (by (with_reducible repeat (first|refine blk_drewN ?_ _|refine blk_drew ?_|refine blk_alloc ?_ _));exact BK231.out) hb)
          have n4_:=Aside0.mk (below_step (by repeat (first|(with_reducible first|exact HB.out|apply below_alloc|apply pw_below_drewN|apply below_drew1|refine below_set ?_ GE213.out|refine below_set ?_ GE214.out|refine below_set ?_ GE231.out)|exact HB.out)) hb)
          have n5_:=Aside0.mk (hbox)
          have n6_:=Aside0.mk ((by rw [hg];exact (below_size (by repeat (first|(with_reducible first|exact HB.out|apply below_alloc|apply pw_below_drewN|apply below_drew1|refine below_set ?_ GE213.out|refine below_set ?_ GE214.out|refine below_set ?_ GE231.out)|exact HB.out))) : w.heap.size ≤ gb230))
          have n7_:=Aside0.mk ((by rw [hg];exact (below_size (by repeat (first|(with_reducible first|exact HB.out|apply below_alloc|apply pw_below_drewN|apply below_drew1|refine below_set ?_ GE213.out|refine below_set ?_ GE214.out|refine below_set ?_ GE231.out)|exact HB.out))) : w.heap.size ≤ gb230))
          have n8_:=Aside0.mk ((by rw [hg];exact Nat.ne_of_lt (blk_lt (g:=gb213) (o:=.cells #[.int .i64 a0_0,.int .i64 a0_1,.slice A0_2 l0_2.length c0_2,.int .i64 a0_3,.int .u32 a0_4] 37 (0,0)) (by (with_reducible repeat (first|refine blk_drewN ?_ _|refine blk_drew ?_|refine blk_alloc ?_ _));exact BK213.out)) : gb213 ≠ gb230))
          have n9_:=Aside0.mk ((by rw [hg];exact Nat.ne_of_gt (blk_lt (g:=gb213) (o:=.cells #[.int .i64 a0_0,.int .i64 a0_1,.slice A0_2 l0_2.length c0_2,.int .i64 a0_3,.int .u32 a0_4] 37 (0,0)) (by (with_reducible repeat (first|refine blk_drewN ?_ _|refine blk_drew ?_|refine blk_alloc ?_ _));exact BK213.out)) : gb230 ≠ gb213))
          have n10_:=Aside0.mk ((by rw [hg];exact Nat.ne_of_lt (blk_lt (g:=gb214) (o:=.cells #[.int .i64 a1_0,.int .i64 a1_1,.slice A1_2 l1_2.length c1_2,.int .i64 a1_3,.int .u32 a1_4] 37 (0,0)) (by (with_reducible repeat (first|refine blk_drewN ?_ _|refine blk_drew ?_|refine blk_alloc ?_ _));exact BK214.out)) : gb214 ≠ gb230))
          have n11_:=Aside0.mk ((by rw [hg];exact Nat.ne_of_gt (blk_lt (g:=gb214) (o:=.cells #[.int .i64 a1_0,.int .i64 a1_1,.slice A1_2 l1_2.length c1_2,.int .i64 a1_3,.int .u32 a1_4] 37 (0,0)) (by (with_reducible repeat (first|refine blk_drewN ?_ _|refine blk_drew ?_|refine blk_alloc ?_ _));exact BK214.out)) : gb230 ≠ gb214))
          have n12_:=Aside0.mk ((by rw [hg];exact Nat.ne_of_lt (blk_lt (g:=gb231) (o:=.cells #[.int .i64 0,.int .i64 0,.slice none 0 0,.int .i64 0,.int .u32 0] 37 (0,0)) (by (with_reducible repeat (first|refine blk_drewN ?_ _|refine blk_drew ?_|refine blk_alloc ?_ _));exact BK231.out)) : gb231 ≠ gb230))
          have n13_:=Aside0.mk ((by rw [hg];exact Nat.ne_of_gt (blk_lt (g:=gb231) (o:=.cells #[.int .i64 0,.int .i64 0,.slice none 0 0,.int .i64 0,.int .u32 0] 37 (0,0)) (by (with_reducible repeat (first|refine blk_drewN ?_ _|refine blk_drew ?_|refine blk_alloc ?_ _));exact BK231.out)) : gb230 ≠ gb231))
          clear HO220
          clear BK213
          clear BK214
          clear BK231
          clear HB
          have HO220:=n0_
          have BK213:=n1_
          have BK214:=n2_
          have BK231:=n3_
          have HB:=n4_
          have BK230:=n5_
          have GW230:=n6_
          have GE230:=n7_
          have NB213_230:=n8_
          have NB230_213:=n9_
          have NB214_230:=n10_
          have NB230_214:=n11_
          have NB231_230:=n12_
          have NB230_231:=n13_
          clear n0_ n1_ n2_ n3_ n4_ n5_ n6_ n7_ n8_ n9_ n10_ n11_ n12_ n13_
          clear hb hbox hg
          refine hK.out _ _ ⟨(blk_cell BK213.out 0).trans rfl,(blk_cell BK213.out 1).trans rfl,(blk_cell BK213.out 2).trans rfl,(blk_cell BK213.out 3).trans rfl,(blk_cell BK213.out 4).trans rfl,(blk_cell BK214.out 0).trans rfl,(blk_cell BK214.out 1).trans rfl,(blk_cell BK214.out 2).trans rfl,(blk_cell BK214.out 3).trans rfl,(blk_cell BK214.out 4).trans rfl⟩ (fun hHeld=>?_)
          clear hK K
          refine norm_ (a':=?_) ?_ ?_
          rotate_left
          ·show Act.put _ (some 7) _ = _
           simp only [Act.put,List.setIfInBounds_toArray,List.set_cons_zero,List.set_cons_succ,i64_w,i32_w]
           rfl
          exact norm_ (by first|(simp only [putAll,Act.put,List.setIfInBounds_toArray,List.set_cons_zero,List.set_cons_succ];done)|(simp only [putAll,Act.put,List.setIfInBounds_toArray,List.set_cons_zero,List.set_cons_succ];rfl)) (hJ1_4_5 (v219,gb230,gb231) _ ⟨hHeld,(by (with_reducible repeat (first|apply Kd.S_alloc|apply Kd.S_drewN|apply Kd.S_drew));exact HO220.out),(by (with_reducible repeat (first|refine blk_drewN ?_ _|refine blk_drew ?_|refine blk_alloc ?_ _));exact BK213.out),(by (with_reducible repeat (first|refine blk_drewN ?_ _|refine blk_drew ?_|refine blk_alloc ?_ _));exact BK214.out),(by (with_reducible repeat (first|refine blk_drewN ?_ _|refine blk_drew ?_|refine blk_alloc ?_ _));exact BK230.out),(by (with_reducible repeat (first|refine blk_drewN ?_ _|refine blk_drew ?_|refine blk_alloc ?_ _));exact BK231.out),GW230.out,GE230.out,NB213_230.out,NB230_213.out,NB214_230.out,NB230_214.out,NB231_230.out,NB230_231.out,GW231.out,GE231.out,NB213_231.out,NB231_213.out,NB214_231.out,NB231_214.out,(by repeat (first|(with_reducible first|exact HB.out|apply below_alloc|apply pw_below_drewN|apply below_drew1|refine below_set ?_ GE213.out|refine below_set ?_ GE214.out|refine below_set ?_ GE231.out|refine below_set ?_ GE230.out)|exact HB.out))⟩)
       ·skip
        rintro ⟨v219,gb230⟩ w17 ⟨hS_,h0_,h1_,h2_,h3_,h4_,h5_,h6_,h7_,h8_,h9_,h10_⟩
        have n0_ : Aside0 (Kd.S (Kd.slice 3 (Kd.int .i64)) 28 w17 w.heap.size (fun _=>True) v219 t218):=⟨h0_⟩
        have n1_ : Aside0 (w17.heap[gb213]? = some (.cells #[.int .i64 a0_0,.int .i64 a0_1,.slice A0_2 l0_2.length c0_2,.int .i64 a0_3,.int .u32 a0_4] 37 (0,0))):=⟨h1_⟩
        have n2_ : Aside0 (w17.heap[gb214]? = some (.cells #[.int .i64 a1_0,.int .i64 a1_1,.slice A1_2 l1_2.length c1_2,.int .i64 a1_3,.int .u32 a1_4] 37 (0,0))):=⟨h2_⟩
        have n3_ : Aside0 (w17.heap[gb230]? = some (.cells #[.int .i64 0,.int .i64 0,.slice none 0 0,.int .i64 0,.int .u32 0] 37 (0,0))):=⟨h3_⟩
        have n4_ : Aside0 (w.heap.size ≤ gb230):=⟨h4_⟩
        have n5_ : Aside0 (w.heap.size ≤ gb230):=⟨h5_⟩
        have n6_ : Aside0 (gb213 ≠ gb230):=⟨h6_⟩
        have n7_ : Aside0 (gb230 ≠ gb213):=⟨h7_⟩
        have n8_ : Aside0 (gb214 ≠ gb230):=⟨h8_⟩
        have n9_ : Aside0 (gb230 ≠ gb214):=⟨h9_⟩
        have n10_ : Aside0 (Below w.heap.size w w17):=⟨h10_⟩
        clear BK213
        clear BK214
        clear HB
        clear h0_ h1_ h2_ h3_ h4_ h5_ h6_ h7_ h8_ h9_ h10_
        have HO220:=n0_
        have BK213:=n1_
        have BK214:=n2_
        have BK230:=n3_
        have GW230:=n4_
        have GE230:=n5_
        have NB213_230:=n6_
        have NB230_213:=n7_
        have NB214_230:=n8_
        have NB230_214:=n9_
        have HB:=n10_
        clear n0_ n1_ n2_ n3_ n4_ n5_ n6_ n7_ n8_ n9_ n10_
        have hHeld : w17.cell? ⟨gb213,0,none⟩ = some (.int .i64 a0_0) ∧ w17.cell? ⟨gb213,1,none⟩ = some (.int .i64 a0_1) ∧ w17.cell? ⟨gb213,2,none⟩ = some (.slice A0_2 l0_2.length c0_2) ∧ w17.cell? ⟨gb213,3,none⟩ = some (.int .i64 a0_3) ∧ w17.cell? ⟨gb213,4,none⟩ = some (.int .u32 a0_4) ∧ w17.cell? ⟨gb214,0,none⟩ = some (.int .i64 a1_0) ∧ w17.cell? ⟨gb214,1,none⟩ = some (.int .i64 a1_1) ∧ w17.cell? ⟨gb214,2,none⟩ = some (.slice A1_2 l1_2.length c1_2) ∧ w17.cell? ⟨gb214,3,none⟩ = some (.int .i64 a1_3) ∧ w17.cell? ⟨gb214,4,none⟩ = some (.int .u32 a1_4):=hS_
        refine norm_ (a':=?_) ?_ ?_
        rotate_left
        ·simp only [putAll,Act.put,List.setIfInBounds_toArray,List.set_cons_zero,List.set_cons_succ]
         rfl
        refine two_ (i:=3) (j:=5) (Ni:=some 20) (Nj:=some 8) #[true,true,true,true,true,false,false,false] #[true,true,true,false,true,true,false,false] rfl rfl rfl rfl (two_of HT_.out (by kernel_rfl)) (by decide) (by decide) (fun K hK=>?_) (fun K hK=>?_)
        ·skip
         refine goes_ Try.func54 (by kernel_rfl) rfl #[.agg #[.int .i64 a1_0,.int .i64 a1_1,.slice A1_2 l1_2.length c1_2,.int .i64 a1_3,.int .u32 a1_4]] (by rfl) rfl rfl (by (try simp only [List.map_toArray,List.map_cons,List.map_nil]);first|done|rfl|(simp only [List.length_drop,List.length_take];rfl)) ?_
         with_reducible refine (least_Small.calls k a1_0 a1_1 _ _ l1_2 a1_3 a1_4 t223 t224 t225 t228 t229 _ ?side1 ?side2 A6.out).mono ?_
         (case side1=>repeat (first|exact (Kd.C_below HR1_2.out HB.out)|(with_reducible refine Kd.C_alloc ?_ _)|(with_reducible refine Kd.C_drewN ?_ _)|(with_reducible refine Kd.C_drew ?_)))
         (case side2=>exact HC1_2.out)
         rintro e w18 ⟨v226,rfl,ho0,hb⟩
         refine ⟨_,rfl,?_⟩
         have n0_:=Aside0.mk (Kd.S_elder' (by (with_reducible repeat (first|apply Kd.S_alloc|apply Kd.S_drewN|apply Kd.S_drew));exact HO220.out) (Kd.S_base ho0) hb)
         have n1_:=Aside0.mk (Kd.S_lower (Kd.S_new' ho0 (Kd.S_lt (by (with_reducible repeat (first|apply Kd.S_alloc|apply Kd.S_drewN|apply Kd.S_drew));exact HO220.out))) (below_size (by repeat (first|(with_reducible first|exact HB.out|apply below_alloc|apply pw_below_drewN|apply below_drew1|refine below_set ?_ GE213.out|refine below_set ?_ GE214.out|refine below_set ?_ GE230.out)|exact HB.out))))
         have n2_:=Aside0.mk (blk_below (g:=gb213) (o:=.cells #[.int .i64 a0_0,.int .i64 a0_1,.slice A0_2 l0_2.length c0_2,.int .i64 a0_3,.int .u32 a0_4] 37 (0,0)) (by (with_reducible repeat (first|refine blk_drewN ?_ _|refine blk_drew ?_|refine blk_alloc ?_ _));exact BK213.out) hb)
         have n3_:=Aside0.mk (blk_below (g:=gb214) (o:=.cells #[.int .i64 a1_0,.int .i64 a1_1,.slice A1_2 l1_2.length c1_2,.int .i64 a1_3,.int .u32 a1_4] 37 (0,0)) (by (with_reducible repeat (first|refine blk_drewN ?_ _|refine blk_drew ?_|refine blk_alloc ?_ _));exact BK214.out) hb)
         have n4_:=Aside0.mk (blk_below (g:=gb230) (o:=.cells #[.int .i64 0,.int .i64 0,.slice none 0 0,.int .i64 0,.int .u32 0] 37 (0,0)) (by (with_reducible repeat (first|refine blk_drewN ?_ _|refine blk_drew ?_|refine blk_alloc ?_ _));exact BK230.out) hb)
         have n5_:=Aside0.mk (below_step (by repeat (first|(with_reducible first|exact HB.out|apply below_alloc|apply pw_below_drewN|apply below_drew1|refine below_set ?_ GE213.out|refine below_set ?_ GE214.out|refine below_set ?_ GE230.out)|exact HB.out)) hb)
         clear HO220
         clear BK213
         clear BK214
         clear BK230
         clear HB
         have HO220:=n0_
         have HO227:=n1_
         have BK213:=n2_
         have BK214:=n3_
         have BK230:=n4_
         have HB:=n5_
         clear n0_ n1_ n2_ n3_ n4_ n5_
         (try clear hb)
         (try clear hb2)
         (try clear hk)
         (try clear hi)
         (try clear ho0)
         refine hK.out _ _ ⟨(blk_cell BK213.out 0).trans rfl,(blk_cell BK213.out 1).trans rfl,(blk_cell BK213.out 2).trans rfl,(blk_cell BK213.out 3).trans rfl,(blk_cell BK213.out 4).trans rfl,(blk_cell BK214.out 0).trans rfl,(blk_cell BK214.out 1).trans rfl,(blk_cell BK214.out 2).trans rfl,(blk_cell BK214.out 3).trans rfl,(blk_cell BK214.out 4).trans rfl⟩ (fun hHeld=>?_)
         clear hK K
         refine norm_ (a':=?_) ?_ ?_
         rotate_left
         ·show Act.put _ (some 20) _ = _
          simp only [Act.put,List.setIfInBounds_toArray,List.set_cons_zero,List.set_cons_succ,i64_w,i32_w]
          rfl
         exact norm_ (by first|(simp only [putAll,Act.put,List.setIfInBounds_toArray,List.set_cons_zero,List.set_cons_succ];done)|(simp only [putAll,Act.put,List.setIfInBounds_toArray,List.set_cons_zero,List.set_cons_succ];rfl)) (hJ1_3_4 (v219,v226,gb230) _ ⟨hHeld,(by (with_reducible repeat (first|apply Kd.S_alloc|apply Kd.S_drewN|apply Kd.S_drew));exact Kd.S_mono HO220.out (fun _ hk=>hk.2)),(by (with_reducible repeat (first|apply Kd.S_alloc|apply Kd.S_drewN|apply Kd.S_drew));exact Kd.S_mono HO227.out (fun _ hk=>hk.2)),(by (with_reducible repeat (first|refine blk_drewN ?_ _|refine blk_drew ?_|refine blk_alloc ?_ _));exact BK213.out),(by (with_reducible repeat (first|refine blk_drewN ?_ _|refine blk_drew ?_|refine blk_alloc ?_ _));exact BK214.out),(by (with_reducible repeat (first|refine blk_drewN ?_ _|refine blk_drew ?_|refine blk_alloc ?_ _));exact BK230.out),GW230.out,GE230.out,NB213_230.out,NB230_213.out,NB214_230.out,NB230_214.out,(by repeat (first|(with_reducible first|exact HB.out|apply below_alloc|apply pw_below_drewN|apply below_drew1|refine below_set ?_ GE213.out|refine below_set ?_ GE214.out|refine below_set ?_ GE230.out)|exact HB.out))⟩)
        ·skip
         refine box_step ?hg (N:=8) ?hd (cs:=#[.int .i64 0,.int .i64 0,.slice none 0 0,.int .i64 0,.int .u32 0]) (t:=37) ?hr ?_;(case hd=>rfl);(case hg=>rfl);(case hr=>first|(go_simp;done)|(go_simp;rfl))
         intro gb231 hg w18 hbox hb
         have n0_:=Aside0.mk (Kd.S_below (by (with_reducible repeat (first|apply Kd.S_alloc|apply Kd.S_drewN|apply Kd.S_drew));exact HO220.out) hb)
         have n1_:=Aside0.mk (blk_below (g:=gb213) (o:=.cells #[.int .i64 a0_0,.int .i64 a0_1,.slice A0_2 l0_2.length c0_2,.int .i64 a0_3,.int .u32 a0_4] 37 (0,0)) (by (with_reducible repeat (first|refine blk_drewN ?_ _|refine blk_drew ?_|refine blk_alloc ?_ _));exact BK213.out) hb)
         have n2_:=Aside0.mk (blk_below (g:=gb214) (o:=.cells #[.int .i64 a1_0,.int .i64 a1_1,.slice A1_2 l1_2.length c1_2,.int .i64 a1_3,.int .u32 a1_4] 37 (0,0)) (by (with_reducible repeat (first|refine blk_drewN ?_ _|refine blk_drew ?_|refine blk_alloc ?_ _));exact BK214.out) hb)
         have n3_:=Aside0.mk (blk_below (g:=gb230) (o:=.cells #[.int .i64 0,.int .i64 0,.slice none 0 0,.int .i64 0,.int .u32 0] 37 (0,0)) (by (with_reducible repeat (first|refine blk_drewN ?_ _|refine blk_drew ?_|refine blk_alloc ?_ _));exact BK230.out) hb)
         have n4_:=Aside0.mk (below_step (by repeat (first|(with_reducible first|exact HB.out|apply below_alloc|apply pw_below_drewN|apply below_drew1|refine below_set ?_ GE213.out|refine below_set ?_ GE214.out|refine below_set ?_ GE230.out)|exact HB.out)) hb)
         have n5_:=Aside0.mk (hbox)
         have n6_:=Aside0.mk ((by rw [hg];exact (below_size (by repeat (first|(with_reducible first|exact HB.out|apply below_alloc|apply pw_below_drewN|apply below_drew1|refine below_set ?_ GE213.out|refine below_set ?_ GE214.out|refine below_set ?_ GE230.out)|exact HB.out))) : w.heap.size ≤ gb231))
         have n7_:=Aside0.mk ((by rw [hg];exact (below_size (by repeat (first|(with_reducible first|exact HB.out|apply below_alloc|apply pw_below_drewN|apply below_drew1|refine below_set ?_ GE213.out|refine below_set ?_ GE214.out|refine below_set ?_ GE230.out)|exact HB.out))) : w.heap.size ≤ gb231))
         have n8_:=Aside0.mk ((by rw [hg];exact Nat.ne_of_lt (blk_lt (g:=gb213) (o:=.cells #[.int .i64 a0_0,.int .i64 a0_1,.slice A0_2 l0_2.length c0_2,.int .i64 a0_3,.int .u32 a0_4] 37 (0,0)) (by (with_reducible repeat (first|refine blk_drewN ?_ _|refine blk_drew ?_|refine blk_alloc ?_ _));exact BK213.out)) : gb213 ≠ gb231))
         have n9_:=Aside0.mk ((by rw [hg];exact Nat.ne_of_gt (blk_lt (g:=gb213) (o:=.cells #[.int .i64 a0_0,.int .i64 a0_1,.slice A0_2 l0_2.length c0_2,.int .i64 a0_3,.int .u32 a0_4] 37 (0,0)) (by (with_reducible repeat (first|refine blk_drewN ?_ _|refine blk_drew ?_|refine blk_alloc ?_ _));exact BK213.out)) : gb231 ≠ gb213))
         have n10_:=Aside0.mk ((by rw [hg];exact Nat.ne_of_lt (blk_lt (g:=gb214) (o:=.cells #[.int .i64 a1_0,.int .i64 a1_1,.slice A1_2 l1_2.length c1_2,.int .i64 a1_3,.int .u32 a1_4] 37 (0,0)) (by (with_reducible repeat (first|refine blk_drewN ?_ _|refine blk_drew ?_|refine blk_alloc ?_ _));exact BK214.out)) : gb214 ≠ gb231))
         have n11_:=Aside0.mk ((by rw [hg];exact Nat.ne_of_gt (blk_lt (g:=gb214) (o:=.cells #[.int .i64 a1_0,.int .i64 a1_1,.slice A1_2 l1_2.length c1_2,.int .i64 a1_3,.int .u32 a1_4] 37 (0,0)) (by (with_reducible repeat (first|refine blk_drewN ?_ _|refine blk_drew ?_|refine blk_alloc ?_ _));exact BK214.out)) : gb231 ≠ gb214))
         have n12_:=Aside0.mk ((by rw [hg];exact Nat.ne_of_lt (blk_lt (g:=gb230) (o:=.cells #[.int .i64 0,.int .i64 0,.slice none 0 0,.int .i64 0,.int .u32 0] 37 (0,0)) (by (with_reducible repeat (first|refine blk_drewN ?_ _|refine blk_drew ?_|refine blk_alloc ?_ _));exact BK230.out)) : gb230 ≠ gb231))
         have n13_:=Aside0.mk ((by rw [hg];exact Nat.ne_of_gt (blk_lt (g:=gb230) (o:=.cells #[.int .i64 0,.int .i64 0,.slice none 0 0,.int .i64 0,.int .u32 0] 37 (0,0)) (by (with_reducible repeat (first|refine blk_drewN ?_ _|refine blk_drew ?_|refine blk_alloc ?_ _));exact BK230.out)) : gb231 ≠ gb230))
         clear HO220
         clear BK213
         clear BK214
         clear BK230
         clear HB
         have HO220:=n0_
         have BK213:=n1_
         have BK214:=n2_
         have BK230:=n3_
         have HB:=n4_
         have BK231:=n5_
         have GW231:=n6_
         have GE231:=n7_
         have NB213_231:=n8_
         have NB231_213:=n9_
         have NB214_231:=n10_
         have NB231_214:=n11_
         have NB230_231:=n12_
         have NB231_230:=n13_
         clear n0_ n1_ n2_ n3_ n4_ n5_ n6_ n7_ n8_ n9_ n10_ n11_ n12_ n13_
         clear hb hbox hg
         refine hK.out _ _ ⟨(blk_cell BK213.out 0).trans rfl,(blk_cell BK213.out 1).trans rfl,(blk_cell BK213.out 2).trans rfl,(blk_cell BK213.out 3).trans rfl,(blk_cell BK213.out 4).trans rfl,(blk_cell BK214.out 0).trans rfl,(blk_cell BK214.out 1).trans rfl,(blk_cell BK214.out 2).trans rfl,(blk_cell BK214.out 3).trans rfl,(blk_cell BK214.out 4).trans rfl⟩ (fun hHeld=>?_)
         clear hK K
         refine norm_ (a':=?_) ?_ ?_
         rotate_left
         ·show Act.put _ (some 8) _ = _
          simp only [Act.put,List.setIfInBounds_toArray,List.set_cons_zero,List.set_cons_succ,i64_w,i32_w]
          rfl
         exact norm_ (by first|(simp only [putAll,Act.put,List.setIfInBounds_toArray,List.set_cons_zero,List.set_cons_succ];done)|(simp only [putAll,Act.put,List.setIfInBounds_toArray,List.set_cons_zero,List.set_cons_succ];rfl)) (hJ1_4_5 (v219,gb230,gb231) _ ⟨hHeld,(by (with_reducible repeat (first|apply Kd.S_alloc|apply Kd.S_drewN|apply Kd.S_drew));exact HO220.out),(by (with_reducible repeat (first|refine blk_drewN ?_ _|refine blk_drew ?_|refine blk_alloc ?_ _));exact BK213.out),(by (with_reducible repeat (first|refine blk_drewN ?_ _|refine blk_drew ?_|refine blk_alloc ?_ _));exact BK214.out),(by (with_reducible repeat (first|refine blk_drewN ?_ _|refine blk_drew ?_|refine blk_alloc ?_ _));exact BK230.out),(by (with_reducible repeat (first|refine blk_drewN ?_ _|refine blk_drew ?_|refine blk_alloc ?_ _));exact BK231.out),GW230.out,GE230.out,NB213_230.out,NB230_213.out,NB214_230.out,NB230_214.out,NB231_230.out,NB230_231.out,GW231.out,GE231.out,NB213_231.out,NB231_213.out,NB214_231.out,NB231_214.out,(by repeat (first|(with_reducible first|exact HB.out|apply below_alloc|apply pw_below_drewN|apply below_drew1|refine below_set ?_ GE213.out|refine below_set ?_ GE214.out|refine below_set ?_ GE230.out|refine below_set ?_ GE231.out)|exact HB.out))⟩)
      ·skip
       rintro ⟨v219,v226⟩ w17 ⟨hS_,h0_,h1_,h2_,h3_,h4_⟩
       have n0_ : Aside0 (Kd.S (Kd.slice 3 (Kd.int .i64)) 28 w17 w.heap.size (fun k_=>some k_ ≠ (v226 : Value).ownBlock) v219 t218):=⟨h0_⟩
       have n1_ : Aside0 (Kd.S (Kd.slice 3 (Kd.int .i64)) 28 w17 w.heap.size (fun k_=>some k_ ≠ (v219 : Value).ownBlock) v226 t225):=⟨h1_⟩
       have n2_ : Aside0 (w17.heap[gb213]? = some (.cells #[.int .i64 a0_0,.int .i64 a0_1,.slice A0_2 l0_2.length c0_2,.int .i64 a0_3,.int .u32 a0_4] 37 (0,0))):=⟨h2_⟩
       have n3_ : Aside0 (w17.heap[gb214]? = some (.cells #[.int .i64 a1_0,.int .i64 a1_1,.slice A1_2 l1_2.length c1_2,.int .i64 a1_3,.int .u32 a1_4] 37 (0,0))):=⟨h3_⟩
       have n4_ : Aside0 (Below w.heap.size w w17):=⟨h4_⟩
       clear BK213
       clear BK214
       clear HB
       clear h0_ h1_ h2_ h3_ h4_
       have HO220:=n0_
       have HO227:=n1_
       have BK213:=n2_
       have BK214:=n3_
       have HB:=n4_
       clear n0_ n1_ n2_ n3_ n4_
       have hHeld : w17.cell? ⟨gb213,0,none⟩ = some (.int .i64 a0_0) ∧ w17.cell? ⟨gb213,1,none⟩ = some (.int .i64 a0_1) ∧ w17.cell? ⟨gb213,2,none⟩ = some (.slice A0_2 l0_2.length c0_2) ∧ w17.cell? ⟨gb213,3,none⟩ = some (.int .i64 a0_3) ∧ w17.cell? ⟨gb213,4,none⟩ = some (.int .u32 a0_4) ∧ w17.cell? ⟨gb214,0,none⟩ = some (.int .i64 a1_0) ∧ w17.cell? ⟨gb214,1,none⟩ = some (.int .i64 a1_1) ∧ w17.cell? ⟨gb214,2,none⟩ = some (.slice A1_2 l1_2.length c1_2) ∧ w17.cell? ⟨gb214,3,none⟩ = some (.int .i64 a1_3) ∧ w17.cell? ⟨gb214,4,none⟩ = some (.int .u32 a1_4):=hS_
       refine norm_ (a':=?_) ?_ ?_
       rotate_left
       ·simp only [putAll,Act.put,List.setIfInBounds_toArray,List.set_cons_zero,List.set_cons_succ]
        rfl
       refine two_ (i:=4) (j:=5) (Ni:=some 7) (Nj:=some 8) #[true,true,true,true,true,false,false,false] #[true,true,true,true,false,true,false,false] rfl rfl rfl rfl (two_of HT_.out (by kernel_rfl)) (by decide) (by decide) (fun K hK=>?_) (fun K hK=>?_)
       ·skip
        refine box_step ?hg (N:=7) ?hd (cs:=#[.int .i64 0,.int .i64 0,.slice none 0 0,.int .i64 0,.int .u32 0]) (t:=37) ?hr ?_;(case hd=>rfl);(case hg=>rfl);(case hr=>first|(go_simp;done)|(go_simp;rfl))
        intro gb230 hg w18 hbox hb
        have n0_:=Aside0.mk (Kd.S_below (by (with_reducible repeat (first|apply Kd.S_alloc|apply Kd.S_drewN|apply Kd.S_drew));exact HO220.out) hb)
        have n1_:=Aside0.mk (Kd.S_below (by (with_reducible repeat (first|apply Kd.S_alloc|apply Kd.S_drewN|apply Kd.S_drew));exact HO227.out) hb)
        have n2_:=Aside0.mk (blk_below (g:=gb213) (o:=.cells #[.int .i64 a0_0,.int .i64 a0_1,.slice A0_2 l0_2.length c0_2,.int .i64 a0_3,.int .u32 a0_4] 37 (0,0)) (by (with_reducible repeat (first|refine blk_drewN ?_ _|refine blk_drew ?_|refine blk_alloc ?_ _));exact BK213.out) hb)
        have n3_:=Aside0.mk (blk_below (g:=gb214) (o:=.cells #[.int .i64 a1_0,.int .i64 a1_1,.slice A1_2 l1_2.length c1_2,.int .i64 a1_3,.int .u32 a1_4] 37 (0,0)) (by (with_reducible repeat (first|refine blk_drewN ?_ _|refine blk_drew ?_|refine blk_alloc ?_ _));exact BK214.out) hb)
        have n4_:=Aside0.mk (below_step (by repeat (first|(with_reducible first|exact HB.out|apply below_alloc|apply pw_below_drewN|apply below_drew1|refine below_set ?_ GE213.out|refine below_set ?_ GE214.out)|exact HB.out)) hb)
        have n5_:=Aside0.mk (hbox)
        have n6_:=Aside0.mk ((by rw [hg];exact (below_size (by repeat (first|(with_reducible first|exact HB.out|apply below_alloc|apply pw_below_drewN|apply below_drew1|refine below_set ?_ GE213.out|refine below_set ?_ GE214.out)|exact HB.out))) : w.heap.size ≤ gb230))
        have n7_:=Aside0.mk ((by rw [hg];exact (below_size (by repeat (first|(with_reducible first|exact HB.out|apply below_alloc|apply pw_below_drewN|apply below_drew1|refine below_set ?_ GE213.out|refine below_set ?_ GE214.out)|exact HB.out))) : w.heap.size ≤ gb230))
        have n8_:=Aside0.mk ((by rw [hg];exact Nat.ne_of_lt (blk_lt (g:=gb213) (o:=.cells #[.int .i64 a0_0,.int .i64 a0_1,.slice A0_2 l0_2.length c0_2,.int .i64 a0_3,.int .u32 a0_4] 37 (0,0)) (by (with_reducible repeat (first|refine blk_drewN ?_ _|refine blk_drew ?_|refine blk_alloc ?_ _));exact BK213.out)) : gb213 ≠ gb230))
        have n9_:=Aside0.mk ((by rw [hg];exact Nat.ne_of_gt (blk_lt (g:=gb213) (o:=.cells #[.int .i64 a0_0,.int .i64 a0_1,.slice A0_2 l0_2.length c0_2,.int .i64 a0_3,.int .u32 a0_4] 37 (0,0)) (by (with_reducible repeat (first|refine blk_drewN ?_ _|refine blk_drew ?_|refine blk_alloc ?_ _));exact BK213.out)) : gb230 ≠ gb213))
        have n10_:=Aside0.mk ((by rw [hg];exact Nat.ne_of_lt (blk_lt (g:=gb214) (o:=.cells #[.int .i64 a1_0,.int .i64 a1_1,.slice A1_2 l1_2.length c1_2,.int .i64 a1_3,.int .u32 a1_4] 37 (0,0)) (by (with_reducible repeat (first|refine blk_drewN ?_ _|refine blk_drew ?_|refine blk_alloc ?_ _));exact BK214.out)) : gb214 ≠ gb230))
        have n11_:=Aside0.mk ((by rw [hg];exact Nat.ne_of_gt (blk_lt (g:=gb214) (o:=.cells #[.int .i64 a1_0,.int .i64 a1_1,.slice A1_2 l1_2.length c1_2,.int .i64 a1_3,.int .u32 a1_4] 37 (0,0)) (by (with_reducible repeat (first|refine blk_drewN ?_ _|refine blk_drew ?_|refine blk_alloc ?_ _));exact BK214.out)) : gb230 ≠ gb214))
        clear HO220
        clear HO227
        clear BK213
        clear BK214
        clear HB
        have HO220:=n0_
        have HO227:=n1_
        have BK213:=n2_
        have BK214:=n3_
        have HB:=n4_
        have BK230:=n5_
        have GW230:=n6_
        have GE230:=n7_
        have NB213_230:=n8_
        have NB230_213:=n9_
        have NB214_230:=n10_
        have NB230_214:=n11_
        clear n0_ n1_ n2_ n3_ n4_ n5_ n6_ n7_ n8_ n9_ n10_ n11_
        clear hb hbox hg
        refine hK.out _ _ ⟨(blk_cell BK213.out 0).trans rfl,(blk_cell BK213.out 1).trans rfl,(blk_cell BK213.out 2).trans rfl,(blk_cell BK213.out 3).trans rfl,(blk_cell BK213.out 4).trans rfl,(blk_cell BK214.out 0).trans rfl,(blk_cell BK214.out 1).trans rfl,(blk_cell BK214.out 2).trans rfl,(blk_cell BK214.out 3).trans rfl,(blk_cell BK214.out 4).trans rfl⟩ (fun hHeld=>?_)
        clear hK K
        refine norm_ (a':=?_) ?_ ?_
        rotate_left
        ·show Act.put _ (some 7) _ = _
         simp only [Act.put,List.setIfInBounds_toArray,List.set_cons_zero,List.set_cons_succ,i64_w,i32_w]
         rfl
        exact norm_ (by first|(simp only [putAll,Act.put,List.setIfInBounds_toArray,List.set_cons_zero,List.set_cons_succ];done)|(simp only [putAll,Act.put,List.setIfInBounds_toArray,List.set_cons_zero,List.set_cons_succ];rfl)) (hJ1_3_4 (v219,v226,gb230) _ ⟨hHeld,(by (with_reducible repeat (first|apply Kd.S_alloc|apply Kd.S_drewN|apply Kd.S_drew));exact HO220.out),(by (with_reducible repeat (first|apply Kd.S_alloc|apply Kd.S_drewN|apply Kd.S_drew));exact HO227.out),(by (with_reducible repeat (first|refine blk_drewN ?_ _|refine blk_drew ?_|refine blk_alloc ?_ _));exact BK213.out),(by (with_reducible repeat (first|refine blk_drewN ?_ _|refine blk_drew ?_|refine blk_alloc ?_ _));exact BK214.out),(by (with_reducible repeat (first|refine blk_drewN ?_ _|refine blk_drew ?_|refine blk_alloc ?_ _));exact BK230.out),GW230.out,GE230.out,NB213_230.out,NB230_213.out,NB214_230.out,NB230_214.out,(by repeat (first|(with_reducible first|exact HB.out|apply below_alloc|apply pw_below_drewN|apply below_drew1|refine below_set ?_ GE213.out|refine below_set ?_ GE214.out|refine below_set ?_ GE230.out)|exact HB.out))⟩)
       ·skip
        refine box_step ?hg (N:=8) ?hd (cs:=#[.int .i64 0,.int .i64 0,.slice none 0 0,.int .i64 0,.int .u32 0]) (t:=37) ?hr ?_;(case hd=>rfl);(case hg=>rfl);(case hr=>first|(go_simp;done)|(go_simp;rfl))
        intro gb231 hg w18 hbox hb
        have n0_:=Aside0.mk (Kd.S_below (by (with_reducible repeat (first|apply Kd.S_alloc|apply Kd.S_drewN|apply Kd.S_drew));exact HO220.out) hb)
        have n1_:=Aside0.mk (Kd.S_below (by (with_reducible repeat (first|apply Kd.S_alloc|apply Kd.S_drewN|apply Kd.S_drew));exact HO227.out) hb)
        have n2_:=Aside0.mk (blk_below (g:=gb213) (o:=.cells #[.int .i64 a0_0,.int .i64 a0_1,.slice A0_2 l0_2.length c0_2,.int .i64 a0_3,.int .u32 a0_4] 37 (0,0)) (by (with_reducible repeat (first|refine blk_drewN ?_ _|refine blk_drew ?_|refine blk_alloc ?_ _));exact BK213.out) hb)
        have n3_:=Aside0.mk (blk_below (g:=gb214) (o:=.cells #[.int .i64 a1_0,.int .i64 a1_1,.slice A1_2 l1_2.length c1_2,.int .i64 a1_3,.int .u32 a1_4] 37 (0,0)) (by (with_reducible repeat (first|refine blk_drewN ?_ _|refine blk_drew ?_|refine blk_alloc ?_ _));exact BK214.out) hb)
        have n4_:=Aside0.mk (below_step (by repeat (first|(with_reducible first|exact HB.out|apply below_alloc|apply pw_below_drewN|apply below_drew1|refine below_set ?_ GE213.out|refine below_set ?_ GE214.out)|exact HB.out)) hb)
        have n5_:=Aside0.mk (hbox)
        have n6_:=Aside0.mk ((by rw [hg];exact (below_size (by repeat (first|(with_reducible first|exact HB.out|apply below_alloc|apply pw_below_drewN|apply below_drew1|refine below_set ?_ GE213.out|refine below_set ?_ GE214.out)|exact HB.out))) : w.heap.size ≤ gb231))
        have n7_:=Aside0.mk ((by rw [hg];exact (below_size (by repeat (first|(with_reducible first|exact HB.out|apply below_alloc|apply pw_below_drewN|apply below_drew1|refine below_set ?_ GE213.out|refine below_set ?_ GE214.out)|exact HB.out))) : w.heap.size ≤ gb231))
        have n8_:=Aside0.mk ((by rw [hg];exact Nat.ne_of_lt (blk_lt (g:=gb213) (o:=.cells #[.int .i64 a0_0,.int .i64 a0_1,.slice A0_2 l0_2.length c0_2,.int .i64 a0_3,.int .u32 a0_4] 37 (0,0)) (by (with_reducible repeat (first|refine blk_drewN ?_ _|refine blk_drew ?_|refine blk_alloc ?_ _));exact BK213.out)) : gb213 ≠ gb231))
        have n9_:=Aside0.mk ((by rw [hg];exact Nat.ne_of_gt (blk_lt (g:=gb213) (o:=.cells #[.int .i64 a0_0,.int .i64 a0_1,.slice A0_2 l0_2.length c0_2,.int .i64 a0_3,.int .u32 a0_4] 37 (0,0)) (by (with_reducible repeat (first|refine blk_drewN ?_ _|refine blk_drew ?_|refine blk_alloc ?_ _));exact BK213.out)) : gb231 ≠ gb213))
        have n10_:=Aside0.mk ((by rw [hg];exact Nat.ne_of_lt (blk_lt (g:=gb214) (o:=.cells #[.int .i64 a1_0,.int .i64 a1_1,.slice A1_2 l1_2.length c1_2,.int .i64 a1_3,.int .u32 a1_4] 37 (0,0)) (by (with_reducible repeat (first|refine blk_drewN ?_ _|refine blk_drew ?_|refine blk_alloc ?_ _));exact BK214.out)) : gb214 ≠ gb231))
        have n11_:=Aside0.mk ((by rw [hg];exact Nat.ne_of_gt (blk_lt (g:=gb214) (o:=.cells #[.int .i64 a1_0,.int .i64 a1_1,.slice A1_2 l1_2.length c1_2,.int .i64 a1_3,.int .u32 a1_4] 37 (0,0)) (by (with_reducible repeat (first|refine blk_drewN ?_ _|refine blk_drew ?_|refine blk_alloc ?_ _));exact BK214.out)) : gb231 ≠ gb214))
        clear HO220
        clear HO227
        clear BK213
        clear BK214
        clear HB
        have HO220:=n0_
        have HO227:=n1_
        have BK213:=n2_
        have BK214:=n3_
        have HB:=n4_
        have BK231:=n5_
        have GW231:=n6_
        have GE231:=n7_
        have NB213_231:=n8_
        have NB231_213:=n9_
        have NB214_231:=n10_
        have NB231_214:=n11_
        clear n0_ n1_ n2_ n3_ n4_ n5_ n6_ n7_ n8_ n9_ n10_ n11_
        clear hb hbox hg
        refine hK.out _ _ ⟨(blk_cell BK213.out 0).trans rfl,(blk_cell BK213.out 1).trans rfl,(blk_cell BK213.out 2).trans rfl,(blk_cell BK213.out 3).trans rfl,(blk_cell BK213.out 4).trans rfl,(blk_cell BK214.out 0).trans rfl,(blk_cell BK214.out 1).trans rfl,(blk_cell BK214.out 2).trans rfl,(blk_cell BK214.out 3).trans rfl,(blk_cell BK214.out 4).trans rfl⟩ (fun hHeld=>?_)
        clear hK K
        refine norm_ (a':=?_) ?_ ?_
        rotate_left
        ·show Act.put _ (some 8) _ = _
         simp only [Act.put,List.setIfInBounds_toArray,List.set_cons_zero,List.set_cons_succ,i64_w,i32_w]
         rfl
        exact norm_ (by first|(simp only [putAll,Act.put,List.setIfInBounds_toArray,List.set_cons_zero,List.set_cons_succ];done)|(simp only [putAll,Act.put,List.setIfInBounds_toArray,List.set_cons_zero,List.set_cons_succ];rfl)) (hJ1_3_5 (v219,v226,gb231) _ ⟨hHeld,(by (with_reducible repeat (first|apply Kd.S_alloc|apply Kd.S_drewN|apply Kd.S_drew));exact HO220.out),(by (with_reducible repeat (first|apply Kd.S_alloc|apply Kd.S_drewN|apply Kd.S_drew));exact HO227.out),(by (with_reducible repeat (first|refine blk_drewN ?_ _|refine blk_drew ?_|refine blk_alloc ?_ _));exact BK213.out),(by (with_reducible repeat (first|refine blk_drewN ?_ _|refine blk_drew ?_|refine blk_alloc ?_ _));exact BK214.out),(by (with_reducible repeat (first|refine blk_drewN ?_ _|refine blk_drew ?_|refine blk_alloc ?_ _));exact BK231.out),GW231.out,GE231.out,NB213_231.out,NB231_213.out,NB214_231.out,NB231_214.out,(by repeat (first|(with_reducible first|exact HB.out|apply below_alloc|apply pw_below_drewN|apply below_drew1|refine below_set ?_ GE213.out|refine below_set ?_ GE214.out|refine below_set ?_ GE231.out)|exact HB.out))⟩)
     ·skip
      rintro ⟨v219,gb230,gb231⟩ w18 ⟨hS_,h0_,h1_,h2_,h3_,h4_,h5_,h6_,h7_,h8_,h9_,h10_,h11_,h12_,h13_,h14_,h15_,h16_,h17_,h18_,h19_⟩
      have n0_ : Aside0 (Kd.S (Kd.slice 3 (Kd.int .i64)) 28 w18 w.heap.size (fun _=>True) v219 t218):=⟨h0_⟩
      have n1_ : Aside0 (w18.heap[gb213]? = some (.cells #[.int .i64 a0_0,.int .i64 a0_1,.slice A0_2 l0_2.length c0_2,.int .i64 a0_3,.int .u32 a0_4] 37 (0,0))):=⟨h1_⟩
      have n2_ : Aside0 (w18.heap[gb214]? = some (.cells #[.int .i64 a1_0,.int .i64 a1_1,.slice A1_2 l1_2.length c1_2,.int .i64 a1_3,.int .u32 a1_4] 37 (0,0))):=⟨h2_⟩
      have n3_ : Aside0 (w18.heap[gb230]? = some (.cells #[.int .i64 0,.int .i64 0,.slice none 0 0,.int .i64 0,.int .u32 0] 37 (0,0))):=⟨h3_⟩
      have n4_ : Aside0 (w18.heap[gb231]? = some (.cells #[.int .i64 0,.int .i64 0,.slice none 0 0,.int .i64 0,.int .u32 0] 37 (0,0))):=⟨h4_⟩
      have n5_ : Aside0 (w.heap.size ≤ gb230):=⟨h5_⟩
      have n6_ : Aside0 (w.heap.size ≤ gb230):=⟨h6_⟩
      have n7_ : Aside0 (gb213 ≠ gb230):=⟨h7_⟩
      have n8_ : Aside0 (gb230 ≠ gb213):=⟨h8_⟩
      have n9_ : Aside0 (gb214 ≠ gb230):=⟨h9_⟩
      have n10_ : Aside0 (gb230 ≠ gb214):=⟨h10_⟩
      have n11_ : Aside0 (gb231 ≠ gb230):=⟨h11_⟩
      have n12_ : Aside0 (gb230 ≠ gb231):=⟨h12_⟩
      have n13_ : Aside0 (w.heap.size ≤ gb231):=⟨h13_⟩
      have n14_ : Aside0 (w.heap.size ≤ gb231):=⟨h14_⟩
      have n15_ : Aside0 (gb213 ≠ gb231):=⟨h15_⟩
      have n16_ : Aside0 (gb231 ≠ gb213):=⟨h16_⟩
      have n17_ : Aside0 (gb214 ≠ gb231):=⟨h17_⟩
      have n18_ : Aside0 (gb231 ≠ gb214):=⟨h18_⟩
      have n19_ : Aside0 (Below w.heap.size w w18):=⟨h19_⟩
      clear BK213
      clear BK214
      clear HB
      clear h0_ h1_ h2_ h3_ h4_ h5_ h6_ h7_ h8_ h9_ h10_ h11_ h12_ h13_ h14_ h15_ h16_ h17_ h18_ h19_
      have HO220:=n0_
      have BK213:=n1_
      have BK214:=n2_
      have BK230:=n3_
      have BK231:=n4_
      have GW230:=n5_
      have GE230:=n6_
      have NB213_230:=n7_
      have NB230_213:=n8_
      have NB214_230:=n9_
      have NB230_214:=n10_
      have NB231_230:=n11_
      have NB230_231:=n12_
      have GW231:=n13_
      have GE231:=n14_
      have NB213_231:=n15_
      have NB231_213:=n16_
      have NB214_231:=n17_
      have NB231_214:=n18_
      have HB:=n19_
      clear n0_ n1_ n2_ n3_ n4_ n5_ n6_ n7_ n8_ n9_ n10_ n11_ n12_ n13_ n14_ n15_ n16_ n17_ n18_ n19_
      have hHeld : w18.cell? ⟨gb213,0,none⟩ = some (.int .i64 a0_0) ∧ w18.cell? ⟨gb213,1,none⟩ = some (.int .i64 a0_1) ∧ w18.cell? ⟨gb213,2,none⟩ = some (.slice A0_2 l0_2.length c0_2) ∧ w18.cell? ⟨gb213,3,none⟩ = some (.int .i64 a0_3) ∧ w18.cell? ⟨gb213,4,none⟩ = some (.int .u32 a0_4) ∧ w18.cell? ⟨gb214,0,none⟩ = some (.int .i64 a1_0) ∧ w18.cell? ⟨gb214,1,none⟩ = some (.int .i64 a1_1) ∧ w18.cell? ⟨gb214,2,none⟩ = some (.slice A1_2 l1_2.length c1_2) ∧ w18.cell? ⟨gb214,3,none⟩ = some (.int .i64 a1_3) ∧ w18.cell? ⟨gb214,4,none⟩ = some (.int .u32 a1_4):=hS_
      refine norm_ (a':=?_) ?_ ?_
      rotate_left
      ·simp only [putAll,Act.put,List.setIfInBounds_toArray,List.set_cons_zero,List.set_cons_succ]
       rfl
      refine one_ (i:=3) (N:=some 20) #[true,true,true,true,true,true,false,false] rfl rfl (one_of HT_.out (by kernel_rfl)) (by decide) (fun K hK=>?_)
      refine goes_ Try.func54 (by kernel_rfl) rfl #[.agg #[.int .i64 a1_0,.int .i64 a1_1,.slice A1_2 l1_2.length c1_2,.int .i64 a1_3,.int .u32 a1_4]] (by rfl) rfl rfl (by (try simp only [List.map_toArray,List.map_cons,List.map_nil]);first|done|rfl|(simp only [List.length_drop,List.length_take];rfl)) ?_
      with_reducible refine (least_Small.calls k a1_0 a1_1 _ _ l1_2 a1_3 a1_4 t223 t224 t225 t228 t229 _ ?side1 ?side2 A6.out).mono ?_
      (case side1=>repeat (first|exact (Kd.C_below HR1_2.out HB.out)|(with_reducible refine Kd.C_alloc ?_ _)|(with_reducible refine Kd.C_drewN ?_ _)|(with_reducible refine Kd.C_drew ?_)))
      (case side2=>exact HC1_2.out)
      rintro e w19 ⟨v226,rfl,ho0,hb⟩
      refine ⟨_,rfl,?_⟩
      have n0_:=Aside0.mk (Kd.S_elder' (by (with_reducible repeat (first|apply Kd.S_alloc|apply Kd.S_drewN|apply Kd.S_drew));exact HO220.out) (Kd.S_base ho0) hb)
      have n1_:=Aside0.mk (Kd.S_lower (Kd.S_new' ho0 (Kd.S_lt (by (with_reducible repeat (first|apply Kd.S_alloc|apply Kd.S_drewN|apply Kd.S_drew));exact HO220.out))) (below_size (by repeat (first|(with_reducible first|exact HB.out|apply below_alloc|apply pw_below_drewN|apply below_drew1|refine below_set ?_ GE213.out|refine below_set ?_ GE214.out|refine below_set ?_ GE230.out|refine below_set ?_ GE231.out)|exact HB.out))))
      have n2_:=Aside0.mk (blk_below (g:=gb213) (o:=.cells #[.int .i64 a0_0,.int .i64 a0_1,.slice A0_2 l0_2.length c0_2,.int .i64 a0_3,.int .u32 a0_4] 37 (0,0)) (by (with_reducible repeat (first|refine blk_drewN ?_ _|refine blk_drew ?_|refine blk_alloc ?_ _));exact BK213.out) hb)
      have n3_:=Aside0.mk (blk_below (g:=gb214) (o:=.cells #[.int .i64 a1_0,.int .i64 a1_1,.slice A1_2 l1_2.length c1_2,.int .i64 a1_3,.int .u32 a1_4] 37 (0,0)) (by (with_reducible repeat (first|refine blk_drewN ?_ _|refine blk_drew ?_|refine blk_alloc ?_ _));exact BK214.out) hb)
      have n4_:=Aside0.mk (blk_below (g:=gb230) (o:=.cells #[.int .i64 0,.int .i64 0,.slice none 0 0,.int .i64 0,.int .u32 0] 37 (0,0)) (by (with_reducible repeat (first|refine blk_drewN ?_ _|refine blk_drew ?_|refine blk_alloc ?_ _));exact BK230.out) hb)
      have n5_:=Aside0.mk (blk_below (g:=gb231) (o:=.cells #[.int .i64 0,.int .i64 0,.slice none 0 0,.int .i64 0,.int .u32 0] 37 (0,0)) (by (with_reducible repeat (first|refine blk_drewN ?_ _|refine blk_drew ?_|refine blk_alloc ?_ _));exact BK231.out) hb)
      have n6_:=Aside0.mk (below_step (by repeat (first|(with_reducible first|exact HB.out|apply below_alloc|apply pw_below_drewN|apply below_drew1|refine below_set ?_ GE213.out|refine below_set ?_ GE214.out|refine below_set ?_ GE230.out|refine below_set ?_ GE231.out)|exact HB.out)) hb)
      clear HO220
      clear BK213
      clear BK214
      clear BK230
      clear BK231
      clear HB
      have HO220:=n0_
      have HO227:=n1_
      have BK213:=n2_
      have BK214:=n3_
      have BK230:=n4_
      have BK231:=n5_
      have HB:=n6_
      clear n0_ n1_ n2_ n3_ n4_ n5_ n6_
      (try clear hb)
      (try clear hb2)
      (try clear hk)
      (try clear hi)
      (try clear ho0)
      refine hK.out _ _ ⟨(blk_cell BK213.out 0).trans rfl,(blk_cell BK213.out 1).trans rfl,(blk_cell BK213.out 2).trans rfl,(blk_cell BK213.out 3).trans rfl,(blk_cell BK213.out 4).trans rfl,(blk_cell BK214.out 0).trans rfl,(blk_cell BK214.out 1).trans rfl,(blk_cell BK214.out 2).trans rfl,(blk_cell BK214.out 3).trans rfl,(blk_cell BK214.out 4).trans rfl⟩ (fun hHeld=>?_)
      clear hK K
      refine norm_ (a':=?_) ?_ ?_
      rotate_left
      ·show Act.put _ (some 20) _ = _
       simp only [Act.put,List.setIfInBounds_toArray,List.set_cons_zero,List.set_cons_succ,i64_w,i32_w]
       rfl
      exact norm_ (by first|(simp only [putAll,Act.put,List.setIfInBounds_toArray,List.set_cons_zero,List.set_cons_succ];done)|(simp only [putAll,Act.put,List.setIfInBounds_toArray,List.set_cons_zero,List.set_cons_succ];rfl)) (hJ1_3_4_5 (v219,v226,gb230,gb231) _ ⟨hHeld,(by (with_reducible repeat (first|apply Kd.S_alloc|apply Kd.S_drewN|apply Kd.S_drew));exact Kd.S_mono HO220.out (fun _ hk=>hk.2)),(by (with_reducible repeat (first|apply Kd.S_alloc|apply Kd.S_drewN|apply Kd.S_drew));exact Kd.S_mono HO227.out (fun _ hk=>hk.2)),(by (with_reducible repeat (first|refine blk_drewN ?_ _|refine blk_drew ?_|refine blk_alloc ?_ _));exact BK213.out),(by (with_reducible repeat (first|refine blk_drewN ?_ _|refine blk_drew ?_|refine blk_alloc ?_ _));exact BK214.out),(by (with_reducible repeat (first|refine blk_drewN ?_ _|refine blk_drew ?_|refine blk_alloc ?_ _));exact BK230.out),(by (with_reducible repeat (first|refine blk_drewN ?_ _|refine blk_drew ?_|refine blk_alloc ?_ _));exact BK231.out),GW230.out,GE230.out,NB213_230.out,NB230_213.out,NB214_230.out,NB230_214.out,NB231_230.out,NB230_231.out,GW231.out,GE231.out,NB213_231.out,NB231_213.out,NB214_231.out,NB231_214.out,(by repeat (first|(with_reducible first|exact HB.out|apply below_alloc|apply pw_below_drewN|apply below_drew1|refine below_set ?_ GE213.out|refine below_set ?_ GE214.out|refine below_set ?_ GE230.out|refine below_set ?_ GE231.out)|exact HB.out))⟩)
    ·skip
     rintro ⟨v219,v226,gb231⟩ w18 ⟨hS_,h0_,h1_,h2_,h3_,h4_,h5_,h6_,h7_,h8_,h9_,h10_,h11_⟩
     have n0_ : Aside0 (Kd.S (Kd.slice 3 (Kd.int .i64)) 28 w18 w.heap.size (fun k_=>some k_ ≠ (v226 : Value).ownBlock) v219 t218):=⟨h0_⟩
     have n1_ : Aside0 (Kd.S (Kd.slice 3 (Kd.int .i64)) 28 w18 w.heap.size (fun k_=>some k_ ≠ (v219 : Value).ownBlock) v226 t225):=⟨h1_⟩
     have n2_ : Aside0 (w18.heap[gb213]? = some (.cells #[.int .i64 a0_0,.int .i64 a0_1,.slice A0_2 l0_2.length c0_2,.int .i64 a0_3,.int .u32 a0_4] 37 (0,0))):=⟨h2_⟩
     have n3_ : Aside0 (w18.heap[gb214]? = some (.cells #[.int .i64 a1_0,.int .i64 a1_1,.slice A1_2 l1_2.length c1_2,.int .i64 a1_3,.int .u32 a1_4] 37 (0,0))):=⟨h3_⟩
     have n4_ : Aside0 (w18.heap[gb231]? = some (.cells #[.int .i64 0,.int .i64 0,.slice none 0 0,.int .i64 0,.int .u32 0] 37 (0,0))):=⟨h4_⟩
     have n5_ : Aside0 (w.heap.size ≤ gb231):=⟨h5_⟩
     have n6_ : Aside0 (w.heap.size ≤ gb231):=⟨h6_⟩
     have n7_ : Aside0 (gb213 ≠ gb231):=⟨h7_⟩
     have n8_ : Aside0 (gb231 ≠ gb213):=⟨h8_⟩
     have n9_ : Aside0 (gb214 ≠ gb231):=⟨h9_⟩
     have n10_ : Aside0 (gb231 ≠ gb214):=⟨h10_⟩
     have n11_ : Aside0 (Below w.heap.size w w18):=⟨h11_⟩
     clear BK213
     clear BK214
     clear HB
     clear h0_ h1_ h2_ h3_ h4_ h5_ h6_ h7_ h8_ h9_ h10_ h11_
     have HO220:=n0_
     have HO227:=n1_
     have BK213:=n2_
     have BK214:=n3_
     have BK231:=n4_
     have GW231:=n5_
     have GE231:=n6_
     have NB213_231:=n7_
     have NB231_213:=n8_
     have NB214_231:=n9_
     have NB231_214:=n10_
     have HB:=n11_
     clear n0_ n1_ n2_ n3_ n4_ n5_ n6_ n7_ n8_ n9_ n10_ n11_
     have hHeld : w18.cell? ⟨gb213,0,none⟩ = some (.int .i64 a0_0) ∧ w18.cell? ⟨gb213,1,none⟩ = some (.int .i64 a0_1) ∧ w18.cell? ⟨gb213,2,none⟩ = some (.slice A0_2 l0_2.length c0_2) ∧ w18.cell? ⟨gb213,3,none⟩ = some (.int .i64 a0_3) ∧ w18.cell? ⟨gb213,4,none⟩ = some (.int .u32 a0_4) ∧ w18.cell? ⟨gb214,0,none⟩ = some (.int .i64 a1_0) ∧ w18.cell? ⟨gb214,1,none⟩ = some (.int .i64 a1_1) ∧ w18.cell? ⟨gb214,2,none⟩ = some (.slice A1_2 l1_2.length c1_2) ∧ w18.cell? ⟨gb214,3,none⟩ = some (.int .i64 a1_3) ∧ w18.cell? ⟨gb214,4,none⟩ = some (.int .u32 a1_4):=hS_
     refine norm_ (a':=?_) ?_ ?_
     rotate_left
     ·simp only [putAll,Act.put,List.setIfInBounds_toArray,List.set_cons_zero,List.set_cons_succ]
      rfl
     refine one_ (i:=4) (N:=some 7) #[true,true,true,true,true,true,false,false] rfl rfl (one_of HT_.out (by kernel_rfl)) (by decide) (fun K hK=>?_)
     refine box_step ?hg (N:=7) ?hd (cs:=#[.int .i64 0,.int .i64 0,.slice none 0 0,.int .i64 0,.int .u32 0]) (t:=37) ?hr ?_;(case hd=>rfl);(case hg=>rfl);(case hr=>first|(go_simp;done)|(go_simp;rfl))
     intro gb230 hg w19 hbox hb
     have n0_:=Aside0.mk (Kd.S_below (by (with_reducible repeat (first|apply Kd.S_alloc|apply Kd.S_drewN|apply Kd.S_drew));exact HO220.out) hb)
     have n1_:=Aside0.mk (Kd.S_below (by (with_reducible repeat (first|apply Kd.S_alloc|apply Kd.S_drewN|apply Kd.S_drew));exact HO227.out) hb)
     have n2_:=Aside0.mk (blk_below (g:=gb213) (o:=.cells #[.int .i64 a0_0,.int .i64 a0_1,.slice A0_2 l0_2.length c0_2,.int .i64 a0_3,.int .u32 a0_4] 37 (0,0)) (by (with_reducible repeat (first|refine blk_drewN ?_ _|refine blk_drew ?_|refine blk_alloc ?_ _));exact BK213.out) hb)
     have n3_:=Aside0.mk (blk_below (g:=gb214) (o:=.cells #[.int .i64 a1_0,.int .i64 a1_1,.slice A1_2 l1_2.length c1_2,.int .i64 a1_3,.int .u32 a1_4] 37 (0,0)) (by (with_reducible repeat (first|refine blk_drewN ?_ _|refine blk_drew ?_|refine blk_alloc ?_ _));exact BK214.out) hb)
     have n4_:=Aside0.mk (blk_below (g:=gb231) (o:=.cells #[.int .i64 0,.int .i64 0,.slice none 0 0,.int .i64 0,.int .u32 0] 37 (0,0)) (by (with_reducible repeat (first|refine blk_drewN ?_ _|refine blk_drew ?_|refine blk_alloc ?_ _));exact BK231.out) hb)
     have n5_:=Aside0.mk (below_step (by repeat (first|(with_reducible first|exact HB.out|apply below_alloc|apply pw_below_drewN|apply below_drew1|refine below_set ?_ GE213.out|refine below_set ?_ GE214.out|refine below_set ?_ GE231.out)|exact HB.out)) hb)
     have n6_:=Aside0.mk (hbox)
     have n7_:=Aside0.mk ((by rw [hg];exact (below_size (by repeat (first|(with_reducible first|exact HB.out|apply below_alloc|apply pw_below_drewN|apply below_drew1|refine below_set ?_ GE213.out|refine below_set ?_ GE214.out|refine below_set ?_ GE231.out)|exact HB.out))) : w.heap.size ≤ gb230))
     have n8_:=Aside0.mk ((by rw [hg];exact (below_size (by repeat (first|(with_reducible first|exact HB.out|apply below_alloc|apply pw_below_drewN|apply below_drew1|refine below_set ?_ GE213.out|refine below_set ?_ GE214.out|refine below_set ?_ GE231.out)|exact HB.out))) : w.heap.size ≤ gb230))
     have n9_:=Aside0.mk ((by rw [hg];exact Nat.ne_of_lt (blk_lt (g:=gb213) (o:=.cells #[.int .i64 a0_0,.int .i64 a0_1,.slice A0_2 l0_2.length c0_2,.int .i64 a0_3,.int .u32 a0_4] 37 (0,0)) (by (with_reducible repeat (first|refine blk_drewN ?_ _|refine blk_drew ?_|refine blk_alloc ?_ _));exact BK213.out)) : gb213 ≠ gb230))
     have n10_:=Aside0.mk ((by rw [hg];exact Nat.ne_of_gt (blk_lt (g:=gb213) (o:=.cells #[.int .i64 a0_0,.int .i64 a0_1,.slice A0_2 l0_2.length c0_2,.int .i64 a0_3,.int .u32 a0_4] 37 (0,0)) (by (with_reducible repeat (first|refine blk_drewN ?_ _|refine blk_drew ?_|refine blk_alloc ?_ _));exact BK213.out)) : gb230 ≠ gb213))
     have n11_:=Aside0.mk ((by rw [hg];exact Nat.ne_of_lt (blk_lt (g:=gb214) (o:=.cells #[.int .i64 a1_0,.int .i64 a1_1,.slice A1_2 l1_2.length c1_2,.int .i64 a1_3,.int .u32 a1_4] 37 (0,0)) (by (with_reducible repeat (first|refine blk_drewN ?_ _|refine blk_drew ?_|refine blk_alloc ?_ _));exact BK214.out)) : gb214 ≠ gb230))
     have n12_:=Aside0.mk ((by rw [hg];exact Nat.ne_of_gt (blk_lt (g:=gb214) (o:=.cells #[.int .i64 a1_0,.int .i64 a1_1,.slice A1_2 l1_2.length c1_2,.int .i64 a1_3,.int .u32 a1_4] 37 (0,0)) (by (with_reducible repeat (first|refine blk_drewN ?_ _|refine blk_drew ?_|refine blk_alloc ?_ _));exact BK214.out)) : gb230 ≠ gb214))
     have n13_:=Aside0.mk ((by rw [hg];exact Nat.ne_of_lt (blk_lt (g:=gb231) (o:=.cells #[.int .i64 0,.int .i64 0,.slice none 0 0,.int .i64 0,.int .u32 0] 37 (0,0)) (by (with_reducible repeat (first|refine blk_drewN ?_ _|refine blk_drew ?_|refine blk_alloc ?_ _));exact BK231.out)) : gb231 ≠ gb230))
     have n14_:=Aside0.mk ((by rw [hg];exact Nat.ne_of_gt (blk_lt (g:=gb231) (o:=.cells #[.int .i64 0,.int .i64 0,.slice none 0 0,.int .i64 0,.int .u32 0] 37 (0,0)) (by (with_reducible repeat (first|refine blk_drewN ?_ _|refine blk_drew ?_|refine blk_alloc ?_ _));exact BK231.out)) : gb230 ≠ gb231))
     clear HO220
     clear HO227
     clear BK213
     clear BK214
     clear BK231
     clear HB
     have HO220:=n0_
     have HO227:=n1_
     have BK213:=n2_
     have BK214:=n3_
     have BK231:=n4_
     have HB:=n5_
     have BK230:=n6_
     have GW230:=n7_
     have GE230:=n8_
     have NB213_230:=n9_
     have NB230_213:=n10_
     have NB214_230:=n11_
     have NB230_214:=n12_
     have NB231_230:=n13_
     have NB230_231:=n14_
     clear n0_ n1_ n2_ n3_ n4_ n5_ n6_ n7_ n8_ n9_ n10_ n11_ n12_ n13_ n14_
     clear hb hbox hg
     refine hK.out _ _ ⟨(blk_cell BK213.out 0).trans rfl,(blk_cell BK213.out 1).trans rfl,(blk_cell BK213.out 2).trans rfl,(blk_cell BK213.out 3).trans rfl,(blk_cell BK213.out 4).trans rfl,(blk_cell BK214.out 0).trans rfl,(blk_cell BK214.out 1).trans rfl,(blk_cell BK214.out 2).trans rfl,(blk_cell BK214.out 3).trans rfl,(blk_cell BK214.out 4).trans rfl⟩ (fun hHeld=>?_)
     clear hK K
     refine norm_ (a':=?_) ?_ ?_
     rotate_left
     ·show Act.put _ (some 7) _ = _
      simp only [Act.put,List.setIfInBounds_toArray,List.set_cons_zero,List.set_cons_succ,i64_w,i32_w]
      rfl
     exact norm_ (by first|(simp only [putAll,Act.put,List.setIfInBounds_toArray,List.set_cons_zero,List.set_cons_succ];done)|(simp only [putAll,Act.put,List.setIfInBounds_toArray,List.set_cons_zero,List.set_cons_succ];rfl)) (hJ1_3_4_5 (v219,v226,gb230,gb231) _ ⟨hHeld,(by (with_reducible repeat (first|apply Kd.S_alloc|apply Kd.S_drewN|apply Kd.S_drew));exact HO220.out),(by (with_reducible repeat (first|apply Kd.S_alloc|apply Kd.S_drewN|apply Kd.S_drew));exact HO227.out),(by (with_reducible repeat (first|refine blk_drewN ?_ _|refine blk_drew ?_|refine blk_alloc ?_ _));exact BK213.out),(by (with_reducible repeat (first|refine blk_drewN ?_ _|refine blk_drew ?_|refine blk_alloc ?_ _));exact BK214.out),(by (with_reducible repeat (first|refine blk_drewN ?_ _|refine blk_drew ?_|refine blk_alloc ?_ _));exact BK230.out),(by (with_reducible repeat (first|refine blk_drewN ?_ _|refine blk_drew ?_|refine blk_alloc ?_ _));exact BK231.out),GW230.out,GE230.out,NB213_230.out,NB230_213.out,NB214_230.out,NB230_214.out,NB231_230.out,NB230_231.out,GW231.out,GE231.out,NB213_231.out,NB231_213.out,NB214_231.out,NB231_214.out,(by repeat (first|(with_reducible first|exact HB.out|apply below_alloc|apply pw_below_drewN|apply below_drew1|refine below_set ?_ GE213.out|refine below_set ?_ GE214.out|refine below_set ?_ GE231.out|refine below_set ?_ GE230.out)|exact HB.out))⟩)
   ·skip
    rintro ⟨v219,v226,gb230⟩ w18 ⟨hS_,h0_,h1_,h2_,h3_,h4_,h5_,h6_,h7_,h8_,h9_,h10_,h11_⟩
    have n0_ : Aside0 (Kd.S (Kd.slice 3 (Kd.int .i64)) 28 w18 w.heap.size (fun k_=>some k_ ≠ (v226 : Value).ownBlock) v219 t218):=⟨h0_⟩
    have n1_ : Aside0 (Kd.S (Kd.slice 3 (Kd.int .i64)) 28 w18 w.heap.size (fun k_=>some k_ ≠ (v219 : Value).ownBlock) v226 t225):=⟨h1_⟩
    have n2_ : Aside0 (w18.heap[gb213]? = some (.cells #[.int .i64 a0_0,.int .i64 a0_1,.slice A0_2 l0_2.length c0_2,.int .i64 a0_3,.int .u32 a0_4] 37 (0,0))):=⟨h2_⟩
    have n3_ : Aside0 (w18.heap[gb214]? = some (.cells #[.int .i64 a1_0,.int .i64 a1_1,.slice A1_2 l1_2.length c1_2,.int .i64 a1_3,.int .u32 a1_4] 37 (0,0))):=⟨h3_⟩
    have n4_ : Aside0 (w18.heap[gb230]? = some (.cells #[.int .i64 0,.int .i64 0,.slice none 0 0,.int .i64 0,.int .u32 0] 37 (0,0))):=⟨h4_⟩
    have n5_ : Aside0 (w.heap.size ≤ gb230):=⟨h5_⟩
    have n6_ : Aside0 (w.heap.size ≤ gb230):=⟨h6_⟩
    have n7_ : Aside0 (gb213 ≠ gb230):=⟨h7_⟩
    have n8_ : Aside0 (gb230 ≠ gb213):=⟨h8_⟩
    have n9_ : Aside0 (gb214 ≠ gb230):=⟨h9_⟩
    have n10_ : Aside0 (gb230 ≠ gb214):=⟨h10_⟩
    have n11_ : Aside0 (Below w.heap.size w w18):=⟨h11_⟩
    clear BK213
    clear BK214
    clear HB
    clear h0_ h1_ h2_ h3_ h4_ h5_ h6_ h7_ h8_ h9_ h10_ h11_
    have HO220:=n0_
    have HO227:=n1_
    have BK213:=n2_
    have BK214:=n3_
    have BK230:=n4_
    have GW230:=n5_
    have GE230:=n6_
    have NB213_230:=n7_
    have NB230_213:=n8_
    have NB214_230:=n9_
    have NB230_214:=n10_
    have HB:=n11_
    clear n0_ n1_ n2_ n3_ n4_ n5_ n6_ n7_ n8_ n9_ n10_ n11_
    have hHeld : w18.cell? ⟨gb213,0,none⟩ = some (.int .i64 a0_0) ∧ w18.cell? ⟨gb213,1,none⟩ = some (.int .i64 a0_1) ∧ w18.cell? ⟨gb213,2,none⟩ = some (.slice A0_2 l0_2.length c0_2) ∧ w18.cell? ⟨gb213,3,none⟩ = some (.int .i64 a0_3) ∧ w18.cell? ⟨gb213,4,none⟩ = some (.int .u32 a0_4) ∧ w18.cell? ⟨gb214,0,none⟩ = some (.int .i64 a1_0) ∧ w18.cell? ⟨gb214,1,none⟩ = some (.int .i64 a1_1) ∧ w18.cell? ⟨gb214,2,none⟩ = some (.slice A1_2 l1_2.length c1_2) ∧ w18.cell? ⟨gb214,3,none⟩ = some (.int .i64 a1_3) ∧ w18.cell? ⟨gb214,4,none⟩ = some (.int .u32 a1_4):=hS_
    refine norm_ (a':=?_) ?_ ?_
    rotate_left
    ·simp only [putAll,Act.put,List.setIfInBounds_toArray,List.set_cons_zero,List.set_cons_succ]
     rfl
    refine one_ (i:=5) (N:=some 8) #[true,true,true,true,true,true,false,false] rfl rfl (one_of HT_.out (by kernel_rfl)) (by decide) (fun K hK=>?_)
    refine box_step ?hg (N:=8) ?hd (cs:=#[.int .i64 0,.int .i64 0,.slice none 0 0,.int .i64 0,.int .u32 0]) (t:=37) ?hr ?_;(case hd=>rfl);(case hg=>rfl);(case hr=>first|(go_simp;done)|(go_simp;rfl))
    intro gb231 hg w19 hbox hb
    have n0_:=Aside0.mk (Kd.S_below (by (with_reducible repeat (first|apply Kd.S_alloc|apply Kd.S_drewN|apply Kd.S_drew));exact HO220.out) hb)
    have n1_:=Aside0.mk (Kd.S_below (by (with_reducible repeat (first|apply Kd.S_alloc|apply Kd.S_drewN|apply Kd.S_drew));exact HO227.out) hb)
    have n2_:=Aside0.mk (blk_below (g:=gb213) (o:=.cells #[.int .i64 a0_0,.int .i64 a0_1,.slice A0_2 l0_2.length c0_2,.int .i64 a0_3,.int .u32 a0_4] 37 (0,0)) (by (with_reducible repeat (first|refine blk_drewN ?_ _|refine blk_drew ?_|refine blk_alloc ?_ _));exact BK213.out) hb)
    have n3_:=Aside0.mk (blk_below (g:=gb214) (o:=.cells #[.int .i64 a1_0,.int .i64 a1_1,.slice A1_2 l1_2.length c1_2,.int .i64 a1_3,.int .u32 a1_4] 37 (0,0)) (by (with_reducible repeat (first|refine blk_drewN ?_ _|refine blk_drew ?_|refine blk_alloc ?_ _));exact BK214.out) hb)
    have n4_:=Aside0.mk (blk_below (g:=gb230) (o:=.cells #[.int .i64 0,.int .i64 0,.slice none 0 0,.int .i64 0,.int .u32 0] 37 (0,0)) (by (with_reducible repeat (first|refine blk_drewN ?_ _|refine blk_drew ?_|refine blk_alloc ?_ _));exact BK230.out) hb)
    have n5_:=Aside0.mk (below_step (by repeat (first|(with_reducible first|exact HB.out|apply below_alloc|apply pw_below_drewN|apply below_drew1|refine below_set ?_ GE213.out|refine below_set ?_ GE214.out|refine below_set ?_ GE230.out)|exact HB.out)) hb)
    have n6_:=Aside0.mk (hbox)
    have n7_:=Aside0.mk ((by rw [hg];exact (below_size (by repeat (first|(with_reducible first|exact HB.out|apply below_alloc|apply pw_below_drewN|apply below_drew1|refine below_set ?_ GE213.out|refine below_set ?_ GE214.out|refine below_set ?_ GE230.out)|exact HB.out))) : w.heap.size ≤ gb231))
    have n8_:=Aside0.mk ((by rw [hg];exact (below_size (by repeat (first|(with_reducible first|exact HB.out|apply below_alloc|apply pw_below_drewN|apply below_drew1|refine below_set ?_ GE213.out|refine below_set ?_ GE214.out|refine below_set ?_ GE230.out)|exact HB.out))) : w.heap.size ≤ gb231))
    have n9_:=Aside0.mk ((by rw [hg];exact Nat.ne_of_lt (blk_lt (g:=gb213) (o:=.cells #[.int .i64 a0_0,.int .i64 a0_1,.slice A0_2 l0_2.length c0_2,.int .i64 a0_3,.int .u32 a0_4] 37 (0,0)) (by (with_reducible repeat (first|refine blk_drewN ?_ _|refine blk_drew ?_|refine blk_alloc ?_ _));exact BK213.out)) : gb213 ≠ gb231))
    have n10_:=Aside0.mk ((by rw [hg];exact Nat.ne_of_gt (blk_lt (g:=gb213) (o:=.cells #[.int .i64 a0_0,.int .i64 a0_1,.slice A0_2 l0_2.length c0_2,.int .i64 a0_3,.int .u32 a0_4] 37 (0,0)) (by (with_reducible repeat (first|refine blk_drewN ?_ _|refine blk_drew ?_|refine blk_alloc ?_ _));exact BK213.out)) : gb231 ≠ gb213))
    have n11_:=Aside0.mk ((by rw [hg];exact Nat.ne_of_lt (blk_lt (g:=gb214) (o:=.cells #[.int .i64 a1_0,.int .i64 a1_1,.slice A1_2 l1_2.length c1_2,.int .i64 a1_3,.int .u32 a1_4] 37 (0,0)) (by (with_reducible repeat (first|refine blk_drewN ?_ _|refine blk_drew ?_|refine blk_alloc ?_ _));exact BK214.out)) : gb214 ≠ gb231))
    have n12_:=Aside0.mk ((by rw [hg];exact Nat.ne_of_gt (blk_lt (g:=gb214) (o:=.cells #[.int .i64 a1_0,.int .i64 a1_1,.slice A1_2 l1_2.length c1_2,.int .i64 a1_3,.int .u32 a1_4] 37 (0,0)) (by (with_reducible repeat (first|refine blk_drewN ?_ _|refine blk_drew ?_|refine blk_alloc ?_ _));exact BK214.out)) : gb231 ≠ gb214))
    have n13_:=Aside0.mk ((by rw [hg];exact Nat.ne_of_lt (blk_lt (g:=gb230) (o:=.cells #[.int .i64 0,.int .i64 0,.slice none 0 0,.int .i64 0,.int .u32 0] 37 (0,0)) (by (with_reducible repeat (first|refine blk_drewN ?_ _|refine blk_drew ?_|refine blk_alloc ?_ _));exact BK230.out)) : gb230 ≠ gb231))
    have n14_:=Aside0.mk ((by rw [hg];exact Nat.ne_of_gt (blk_lt (g:=gb230) (o:=.cells #[.int .i64 0,.int .i64 0,.slice none 0 0,.int .i64 0,.int .u32 0] 37 (0,0)) (by (with_reducible repeat (first|refine blk_drewN ?_ _|refine blk_drew ?_|refine blk_alloc ?_ _));exact BK230.out)) : gb231 ≠ gb230))
    clear HO220
    clear HO227
    clear BK213
    clear BK214
    clear BK230
    clear HB
    have HO220:=n0_
    have HO227:=n1_
    have BK213:=n2_
    have BK214:=n3_
    have BK230:=n4_
    have HB:=n5_
    have BK231:=n6_
    have GW231:=n7_
    have GE231:=n8_
    have NB213_231:=n9_
    have NB231_213:=n10_
    have NB214_231:=n11_
    have NB231_214:=n12_
    have NB230_231:=n13_
    have NB231_230:=n14_
    clear n0_ n1_ n2_ n3_ n4_ n5_ n6_ n7_ n8_ n9_ n10_ n11_ n12_ n13_ n14_
    clear hb hbox hg
    refine hK.out _ _ ⟨(blk_cell BK213.out 0).trans rfl,(blk_cell BK213.out 1).trans rfl,(blk_cell BK213.out 2).trans rfl,(blk_cell BK213.out 3).trans rfl,(blk_cell BK213.out 4).trans rfl,(blk_cell BK214.out 0).trans rfl,(blk_cell BK214.out 1).trans rfl,(blk_cell BK214.out 2).trans rfl,(blk_cell BK214.out 3).trans rfl,(blk_cell BK214.out 4).trans rfl⟩ (fun hHeld=>?_)
    clear hK K
    refine norm_ (a':=?_) ?_ ?_
    rotate_left
    ·show Act.put _ (some 8) _ = _
     simp only [Act.put,List.setIfInBounds_toArray,List.set_cons_zero,List.set_cons_succ,i64_w,i32_w]
     rfl
    exact norm_ (by first|(simp only [putAll,Act.put,List.setIfInBounds_toArray,List.set_cons_zero,List.set_cons_succ];done)|(simp only [putAll,Act.put,List.setIfInBounds_toArray,List.set_cons_zero,List.set_cons_succ];rfl)) (hJ1_3_4_5 (v219,v226,gb230,gb231) _ ⟨hHeld,(by (with_reducible repeat (first|apply Kd.S_alloc|apply Kd.S_drewN|apply Kd.S_drew));exact HO220.out),(by (with_reducible repeat (first|apply Kd.S_alloc|apply Kd.S_drewN|apply Kd.S_drew));exact HO227.out),(by (with_reducible repeat (first|refine blk_drewN ?_ _|refine blk_drew ?_|refine blk_alloc ?_ _));exact BK213.out),(by (with_reducible repeat (first|refine blk_drewN ?_ _|refine blk_drew ?_|refine blk_alloc ?_ _));exact BK214.out),(by (with_reducible repeat (first|refine blk_drewN ?_ _|refine blk_drew ?_|refine blk_alloc ?_ _));exact BK230.out),(by (with_reducible repeat (first|refine blk_drewN ?_ _|refine blk_drew ?_|refine blk_alloc ?_ _));exact BK231.out),GW230.out,GE230.out,NB213_230.out,NB230_213.out,NB214_230.out,NB230_214.out,NB231_230.out,NB230_231.out,GW231.out,GE231.out,NB213_231.out,NB231_213.out,NB214_231.out,NB231_214.out,(by repeat (first|(with_reducible first|exact HB.out|apply below_alloc|apply pw_below_drewN|apply below_drew1|refine below_set ?_ GE213.out|refine below_set ?_ GE214.out|refine below_set ?_ GE230.out|refine below_set ?_ GE231.out)|exact HB.out))⟩)
  rintro ⟨v219,v226,gb230,gb231⟩ w19 ⟨hS_,h0_,h1_,h2_,h3_,h4_,h5_,h6_,h7_,h8_,h9_,h10_,h11_,h12_,h13_,h14_,h15_,h16_,h17_,h18_,h19_,h20_⟩
  have n0_ : Aside0 (Kd.S (Kd.slice 3 (Kd.int .i64)) 28 w19 w.heap.size (fun k_=>some k_ ≠ (v226 : Value).ownBlock) v219 t218):=⟨h0_⟩
  have n1_ : Aside0 (Kd.S (Kd.slice 3 (Kd.int .i64)) 28 w19 w.heap.size (fun k_=>some k_ ≠ (v219 : Value).ownBlock) v226 t225):=⟨h1_⟩
  have n2_ : Aside0 (w19.heap[gb213]? = some (.cells #[.int .i64 a0_0,.int .i64 a0_1,.slice A0_2 l0_2.length c0_2,.int .i64 a0_3,.int .u32 a0_4] 37 (0,0))):=⟨h2_⟩
  have n3_ : Aside0 (w19.heap[gb214]? = some (.cells #[.int .i64 a1_0,.int .i64 a1_1,.slice A1_2 l1_2.length c1_2,.int .i64 a1_3,.int .u32 a1_4] 37 (0,0))):=⟨h3_⟩
  have n4_ : Aside0 (w19.heap[gb230]? = some (.cells #[.int .i64 0,.int .i64 0,.slice none 0 0,.int .i64 0,.int .u32 0] 37 (0,0))):=⟨h4_⟩
  have n5_ : Aside0 (w19.heap[gb231]? = some (.cells #[.int .i64 0,.int .i64 0,.slice none 0 0,.int .i64 0,.int .u32 0] 37 (0,0))):=⟨h5_⟩
  have n6_ : Aside0 (w.heap.size ≤ gb230):=⟨h6_⟩
  have n7_ : Aside0 (w.heap.size ≤ gb230):=⟨h7_⟩
  have n8_ : Aside0 (gb213 ≠ gb230):=⟨h8_⟩
  have n9_ : Aside0 (gb230 ≠ gb213):=⟨h9_⟩
  have n10_ : Aside0 (gb214 ≠ gb230):=⟨h10_⟩
  have n11_ : Aside0 (gb230 ≠ gb214):=⟨h11_⟩
  have n12_ : Aside0 (gb231 ≠ gb230):=⟨h12_⟩
  have n13_ : Aside0 (gb230 ≠ gb231):=⟨h13_⟩
  have n14_ : Aside0 (w.heap.size ≤ gb231):=⟨h14_⟩
  have n15_ : Aside0 (w.heap.size ≤ gb231):=⟨h15_⟩
  have n16_ : Aside0 (gb213 ≠ gb231):=⟨h16_⟩
  have n17_ : Aside0 (gb231 ≠ gb213):=⟨h17_⟩
  have n18_ : Aside0 (gb214 ≠ gb231):=⟨h18_⟩
  have n19_ : Aside0 (gb231 ≠ gb214):=⟨h19_⟩
  have n20_ : Aside0 (Below w.heap.size w w19):=⟨h20_⟩
  clear BK213
  clear BK214
  clear HB
  clear h0_ h1_ h2_ h3_ h4_ h5_ h6_ h7_ h8_ h9_ h10_ h11_ h12_ h13_ h14_ h15_ h16_ h17_ h18_ h19_ h20_
  have HO220:=n0_
  have HO227:=n1_
  have BK213:=n2_
  have BK214:=n3_
  have BK230:=n4_
  have BK231:=n5_
  have GW230:=n6_
  have GE230:=n7_
  have NB213_230:=n8_
  have NB230_213:=n9_
  have NB214_230:=n10_
  have NB230_214:=n11_
  have NB231_230:=n12_
  have NB230_231:=n13_
  have GW231:=n14_
  have GE231:=n15_
  have NB213_231:=n16_
  have NB231_213:=n17_
  have NB214_231:=n18_
  have NB231_214:=n19_
  have HB:=n20_
  clear n0_ n1_ n2_ n3_ n4_ n5_ n6_ n7_ n8_ n9_ n10_ n11_ n12_ n13_ n14_ n15_ n16_ n17_ n18_ n19_ n20_
  have hHeld : w19.cell? ⟨gb213,0,none⟩ = some (.int .i64 a0_0) ∧ w19.cell? ⟨gb213,1,none⟩ = some (.int .i64 a0_1) ∧ w19.cell? ⟨gb213,2,none⟩ = some (.slice A0_2 l0_2.length c0_2) ∧ w19.cell? ⟨gb213,3,none⟩ = some (.int .i64 a0_3) ∧ w19.cell? ⟨gb213,4,none⟩ = some (.int .u32 a0_4) ∧ w19.cell? ⟨gb214,0,none⟩ = some (.int .i64 a1_0) ∧ w19.cell? ⟨gb214,1,none⟩ = some (.int .i64 a1_1) ∧ w19.cell? ⟨gb214,2,none⟩ = some (.slice A1_2 l1_2.length c1_2) ∧ w19.cell? ⟨gb214,3,none⟩ = some (.int .i64 a1_3) ∧ w19.cell? ⟨gb214,4,none⟩ = some (.int .u32 a1_4):=hS_
  obtain ⟨Ao22,co22,eo22⟩:=Kd.S_slice HO220.out
  (first|subst eo22|(injection eo22 with f1_ f2_ f3_;have f4_:=f1_.symm;have f5_:=f3_.symm;clear f1_ f2_ f3_;subst f4_;subst f5_))
  obtain ⟨Ao28,co28,eo28⟩:=Kd.S_slice HO227.out
  (first|subst eo28|(injection eo28 with f1_ f2_ f3_;have f4_:=f1_.symm;have f5_:=f3_.symm;clear f1_ f2_ f3_;subst f4_;subst f5_))
  refine norm_ (a':=?_) ?_ ?_
  rotate_left
  ·simp only [putAll,Act.put,List.setIfInBounds_toArray,List.set_cons_zero,List.set_cons_succ]
   rfl
  refine one_ (i:=6) (N:=none) #[true,true,true,true,true,true,true,false] rfl rfl (one_of HT_.out (by kernel_rfl)) (by decide) (fun K hK=>?_)
  have hs20 : w19.cell? ⟨gb230,0,none⟩ = some (.int .i64 0):=(blk_cell BK230.out 0).trans rfl
  have hfs20:=blk_frozen BK230.out 0
  have hns20_0:=NB213_230.out
  have hns20_1:=NB214_230.out
  have hns20_3:=NB231_230.out
  have hms20_0:=NB230_213.out
  have hms20_1:=NB230_214.out
  have hms20_3:=NB230_231.out
  have hs21 : w19.cell? ⟨gb230,1,none⟩ = some (.int .i64 0):=(blk_cell BK230.out 1).trans rfl
  have hfs21:=blk_frozen BK230.out 1
  have hns21_0:=NB213_230.out
  have hns21_1:=NB214_230.out
  have hns21_3:=NB231_230.out
  have hms21_0:=NB230_213.out
  have hms21_1:=NB230_214.out
  have hms21_3:=NB230_231.out
  have hs23 : w19.cell? ⟨gb230,2,none⟩ = some (.slice none 0 0):=(blk_cell BK230.out 2).trans rfl
  have hfs23:=blk_frozen BK230.out 2
  have hns23_0:=NB213_230.out
  have hns23_1:=NB214_230.out
  have hns23_3:=NB231_230.out
  have hms23_0:=NB230_213.out
  have hms23_1:=NB230_214.out
  have hms23_3:=NB230_231.out
  have hs24 : w19.cell? ⟨gb230,3,none⟩ = some (.int .i64 0):=(blk_cell BK230.out 3).trans rfl
  have hfs24:=blk_frozen BK230.out 3
  have hns24_0:=NB213_230.out
  have hns24_1:=NB214_230.out
  have hns24_3:=NB231_230.out
  have hms24_0:=NB230_213.out
  have hms24_1:=NB230_214.out
  have hms24_3:=NB230_231.out
  have hs25 : w19.cell? ⟨gb230,4,none⟩ = some (.int .u32 0):=(blk_cell BK230.out 4).trans rfl
  have hfs25:=blk_frozen BK230.out 4
  have hns25_0:=NB213_230.out
  have hns25_1:=NB214_230.out
  have hns25_3:=NB231_230.out
  have hms25_0:=NB230_213.out
  have hms25_1:=NB230_214.out
  have hms25_3:=NB230_231.out
  refine skip_ (w1:=?_) (by rfl) rfl ?_ ?_
  rotate_left
  ·go_simp
   rfl
  refine hK.out _ _ ⟨((cell_far (p:=⟨gb230,_,none⟩) NB213_230.out _).trans (((cell_far (p:=⟨gb230,_,none⟩) NB213_230.out _).trans (((cell_far (p:=⟨gb230,_,none⟩) NB213_230.out _).trans (((cell_far (p:=⟨gb230,_,none⟩) NB213_230.out _).trans (((cell_far (p:=⟨gb230,_,none⟩) NB213_230.out _).trans (hHeld.1)))))))))),((cell_far (p:=⟨gb230,_,none⟩) NB213_230.out _).trans (((cell_far (p:=⟨gb230,_,none⟩) NB213_230.out _).trans (((cell_far (p:=⟨gb230,_,none⟩) NB213_230.out _).trans (((cell_far (p:=⟨gb230,_,none⟩) NB213_230.out _).trans (((cell_far (p:=⟨gb230,_,none⟩) NB213_230.out _).trans (hHeld.2.1)))))))))),((cell_far (p:=⟨gb230,_,none⟩) NB213_230.out _).trans (((cell_far (p:=⟨gb230,_,none⟩) NB213_230.out _).trans (((cell_far (p:=⟨gb230,_,none⟩) NB213_230.out _).trans (((cell_far (p:=⟨gb230,_,none⟩) NB213_230.out _).trans (((cell_far (p:=⟨gb230,_,none⟩) NB213_230.out _).trans (hHeld.2.2.1)))))))))),((cell_far (p:=⟨gb230,_,none⟩) NB213_230.out _).trans (((cell_far (p:=⟨gb230,_,none⟩) NB213_230.out _).trans (((cell_far (p:=⟨gb230,_,none⟩) NB213_230.out _).trans (((cell_far (p:=⟨gb230,_,none⟩) NB213_230.out _).trans (((cell_far (p:=⟨gb230,_,none⟩) NB213_230.out _).trans (hHeld.2.2.2.1)))))))))),((cell_far (p:=⟨gb230,_,none⟩) NB213_230.out _).trans (((cell_far (p:=⟨gb230,_,none⟩) NB213_230.out _).trans (((cell_far (p:=⟨gb230,_,none⟩) NB213_230.out _).trans (((cell_far (p:=⟨gb230,_,none⟩) NB213_230.out _).trans (((cell_far (p:=⟨gb230,_,none⟩) NB213_230.out _).trans (hHeld.2.2.2.2.1)))))))))),((cell_far (p:=⟨gb230,_,none⟩) NB214_230.out _).trans (((cell_far (p:=⟨gb230,_,none⟩) NB214_230.out _).trans (((cell_far (p:=⟨gb230,_,none⟩) NB214_230.out _).trans (((cell_far (p:=⟨gb230,_,none⟩) NB214_230.out _).trans (((cell_far (p:=⟨gb230,_,none⟩) NB214_230.out _).trans (hHeld.2.2.2.2.2.1)))))))))),((cell_far (p:=⟨gb230,_,none⟩) NB214_230.out _).trans (((cell_far (p:=⟨gb230,_,none⟩) NB214_230.out _).trans (((cell_far (p:=⟨gb230,_,none⟩) NB214_230.out _).trans (((cell_far (p:=⟨gb230,_,none⟩) NB214_230.out _).trans (((cell_far (p:=⟨gb230,_,none⟩) NB214_230.out _).trans (hHeld.2.2.2.2.2.2.1)))))))))),((cell_far (p:=⟨gb230,_,none⟩) NB214_230.out _).trans (((cell_far (p:=⟨gb230,_,none⟩) NB214_230.out _).trans (((cell_far (p:=⟨gb230,_,none⟩) NB214_230.out _).trans (((cell_far (p:=⟨gb230,_,none⟩) NB214_230.out _).trans (((cell_far (p:=⟨gb230,_,none⟩) NB214_230.out _).trans (hHeld.2.2.2.2.2.2.2.1)))))))))),((cell_far (p:=⟨gb230,_,none⟩) NB214_230.out _).trans (((cell_far (p:=⟨gb230,_,none⟩) NB214_230.out _).trans (((cell_far (p:=⟨gb230,_,none⟩) NB214_230.out _).trans (((cell_far (p:=⟨gb230,_,none⟩) NB214_230.out _).trans (((cell_far (p:=⟨gb230,_,none⟩) NB214_230.out _).trans (hHeld.2.2.2.2.2.2.2.2.1)))))))))),((cell_far (p:=⟨gb230,_,none⟩) NB214_230.out _).trans (((cell_far (p:=⟨gb230,_,none⟩) NB214_230.out _).trans (((cell_far (p:=⟨gb230,_,none⟩) NB214_230.out _).trans (((cell_far (p:=⟨gb230,_,none⟩) NB214_230.out _).trans (((cell_far (p:=⟨gb230,_,none⟩) NB214_230.out _).trans (hHeld.2.2.2.2.2.2.2.2.2))))))))))⟩ (fun hHeld=>?_)
  clear hK K
  refine one_ (i:=7) (N:=none) #[true,true,true,true,true,true,true,true] rfl rfl (one_of HT_.out (by kernel_rfl)) (by decide) (fun K hK=>?_)
  have hs26 : w19.cell? ⟨gb231,0,none⟩ = some (.int .i64 0):=(blk_cell BK231.out 0).trans rfl
  have hfs26:=blk_frozen BK231.out 0
  have hns26_0:=NB213_231.out
  have hns26_1:=NB214_231.out
  have hns26_2:=NB230_231.out
  have hms26_0:=NB231_213.out
  have hms26_1:=NB231_214.out
  have hms26_2:=NB231_230.out
  have hs27 : w19.cell? ⟨gb231,1,none⟩ = some (.int .i64 0):=(blk_cell BK231.out 1).trans rfl
  have hfs27:=blk_frozen BK231.out 1
  have hns27_0:=NB213_231.out
  have hns27_1:=NB214_231.out
  have hns27_2:=NB230_231.out
  have hms27_0:=NB231_213.out
  have hms27_1:=NB231_214.out
  have hms27_2:=NB231_230.out
  have hs29 : w19.cell? ⟨gb231,2,none⟩ = some (.slice none 0 0):=(blk_cell BK231.out 2).trans rfl
  have hfs29:=blk_frozen BK231.out 2
  have hns29_0:=NB213_231.out
  have hns29_1:=NB214_231.out
  have hns29_2:=NB230_231.out
  have hms29_0:=NB231_213.out
  have hms29_1:=NB231_214.out
  have hms29_2:=NB231_230.out
  have hs30 : w19.cell? ⟨gb231,3,none⟩ = some (.int .i64 0):=(blk_cell BK231.out 3).trans rfl
  have hfs30:=blk_frozen BK231.out 3
  have hns30_0:=NB213_231.out
  have hns30_1:=NB214_231.out
  have hns30_2:=NB230_231.out
  have hms30_0:=NB231_213.out
  have hms30_1:=NB231_214.out
  have hms30_2:=NB231_230.out
  have hs31 : w19.cell? ⟨gb231,4,none⟩ = some (.int .u32 0):=(blk_cell BK231.out 4).trans rfl
  have hfs31:=blk_frozen BK231.out 4
  have hns31_0:=NB213_231.out
  have hns31_1:=NB214_231.out
  have hns31_2:=NB230_231.out
  have hms31_0:=NB231_213.out
  have hms31_1:=NB231_214.out
  have hms31_2:=NB231_230.out
  refine skip_ (w1:=?_) (by rfl) rfl ?_ ?_
  rotate_left
  ·go_simp
   rfl
  refine hK.out _ _ ⟨((cell_far (p:=⟨gb231,_,none⟩) NB213_231.out _).trans (((cell_far (p:=⟨gb231,_,none⟩) NB213_231.out _).trans (((cell_far (p:=⟨gb231,_,none⟩) NB213_231.out _).trans (((cell_far (p:=⟨gb231,_,none⟩) NB213_231.out _).trans (((cell_far (p:=⟨gb231,_,none⟩) NB213_231.out _).trans (hHeld.1)))))))))),((cell_far (p:=⟨gb231,_,none⟩) NB213_231.out _).trans (((cell_far (p:=⟨gb231,_,none⟩) NB213_231.out _).trans (((cell_far (p:=⟨gb231,_,none⟩) NB213_231.out _).trans (((cell_far (p:=⟨gb231,_,none⟩) NB213_231.out _).trans (((cell_far (p:=⟨gb231,_,none⟩) NB213_231.out _).trans (hHeld.2.1)))))))))),((cell_far (p:=⟨gb231,_,none⟩) NB213_231.out _).trans (((cell_far (p:=⟨gb231,_,none⟩) NB213_231.out _).trans (((cell_far (p:=⟨gb231,_,none⟩) NB213_231.out _).trans (((cell_far (p:=⟨gb231,_,none⟩) NB213_231.out _).trans (((cell_far (p:=⟨gb231,_,none⟩) NB213_231.out _).trans (hHeld.2.2.1)))))))))),((cell_far (p:=⟨gb231,_,none⟩) NB213_231.out _).trans (((cell_far (p:=⟨gb231,_,none⟩) NB213_231.out _).trans (((cell_far (p:=⟨gb231,_,none⟩) NB213_231.out _).trans (((cell_far (p:=⟨gb231,_,none⟩) NB213_231.out _).trans (((cell_far (p:=⟨gb231,_,none⟩) NB213_231.out _).trans (hHeld.2.2.2.1)))))))))),((cell_far (p:=⟨gb231,_,none⟩) NB213_231.out _).trans (((cell_far (p:=⟨gb231,_,none⟩) NB213_231.out _).trans (((cell_far (p:=⟨gb231,_,none⟩) NB213_231.out _).trans (((cell_far (p:=⟨gb231,_,none⟩) NB213_231.out _).trans (((cell_far (p:=⟨gb231,_,none⟩) NB213_231.out _).trans (hHeld.2.2.2.2.1)))))))))),((cell_far (p:=⟨gb231,_,none⟩) NB214_231.out _).trans (((cell_far (p:=⟨gb231,_,none⟩) NB214_231.out _).trans (((cell_far (p:=⟨gb231,_,none⟩) NB214_231.out _).trans (((cell_far (p:=⟨gb231,_,none⟩) NB214_231.out _).trans (((cell_far (p:=⟨gb231,_,none⟩) NB214_231.out _).trans (hHeld.2.2.2.2.2.1)))))))))),((cell_far (p:=⟨gb231,_,none⟩) NB214_231.out _).trans (((cell_far (p:=⟨gb231,_,none⟩) NB214_231.out _).trans (((cell_far (p:=⟨gb231,_,none⟩) NB214_231.out _).trans (((cell_far (p:=⟨gb231,_,none⟩) NB214_231.out _).trans (((cell_far (p:=⟨gb231,_,none⟩) NB214_231.out _).trans (hHeld.2.2.2.2.2.2.1)))))))))),((cell_far (p:=⟨gb231,_,none⟩) NB214_231.out _).trans (((cell_far (p:=⟨gb231,_,none⟩) NB214_231.out _).trans (((cell_far (p:=⟨gb231,_,none⟩) NB214_231.out _).trans (((cell_far (p:=⟨gb231,_,none⟩) NB214_231.out _).trans (((cell_far (p:=⟨gb231,_,none⟩) NB214_231.out _).trans (hHeld.2.2.2.2.2.2.2.1)))))))))),((cell_far (p:=⟨gb231,_,none⟩) NB214_231.out _).trans (((cell_far (p:=⟨gb231,_,none⟩) NB214_231.out _).trans (((cell_far (p:=⟨gb231,_,none⟩) NB214_231.out _).trans (((cell_far (p:=⟨gb231,_,none⟩) NB214_231.out _).trans (((cell_far (p:=⟨gb231,_,none⟩) NB214_231.out _).trans (hHeld.2.2.2.2.2.2.2.2.1)))))))))),((cell_far (p:=⟨gb231,_,none⟩) NB214_231.out _).trans (((cell_far (p:=⟨gb231,_,none⟩) NB214_231.out _).trans (((cell_far (p:=⟨gb231,_,none⟩) NB214_231.out _).trans (((cell_far (p:=⟨gb231,_,none⟩) NB214_231.out _).trans (((cell_far (p:=⟨gb231,_,none⟩) NB214_231.out _).trans (hHeld.2.2.2.2.2.2.2.2.2))))))))))⟩ (fun hHeld=>?_)
  clear hK K
  refine done_ (done_of HT_.out (by kernel_rfl)) ?_
  go_upto_region 5 with (fail)
  go_cut [9] (fun v9 wc=>∃ (kq : Nat) (x9_6 : Bool),v9 = .bool x9_6 ∧ Aside0 (least_Same.j0 kq x9_6 t216 t217 t218 t221 t222 t223 t224 t225 t228 t229 = some (r1,r2)) ∧ Aside0 (kq ≤ k) ∧ Aside0 (Kd.S (Kd.slice 3 (Kd.int .i64)) 28 wc w.heap.size (fun k_=>some k_ ≠ ((.slice Ao28 t225.length co28) : Value).ownBlock) (.slice Ao22 t218.length co22) t218) ∧ Aside0 (Kd.S (Kd.slice 3 (Kd.int .i64)) 28 wc w.heap.size (fun k_=>some k_ ≠ ((.slice Ao22 t218.length co22) : Value).ownBlock) (.slice Ao28 t225.length co28) t225) ∧ Aside0 (wc.heap[gb213]? = some (.cells #[.int .i64 a0_0,.int .i64 a0_1,(.slice A0_2 l0_2.length c0_2),.int .i64 a0_3,.int .u32 a0_4] 37 (0,0))) ∧ Aside0 (wc.heap[gb214]? = some (.cells #[.int .i64 a1_0,.int .i64 a1_1,(.slice A1_2 l1_2.length c1_2),.int .i64 a1_3,.int .u32 a1_4] 37 (0,0))) ∧ Aside0 (wc.heap[gb230]? = some (.cells #[.int .i64 t216,.int .i64 t217,(.slice Ao22 t218.length co22),.int .i64 t221,.int .u32 t222] 37 (0,0))) ∧ Aside0 (wc.heap[gb231]? = some (.cells #[.int .i64 t223,.int .i64 t224,(.slice Ao28 t225.length co28),.int .i64 t228,.int .u32 t229] 37 (0,0))) ∧ Aside0 (Below w.heap.size w wc))
  case first =>
   have H:=HC7.out
   clear HC7
   by_cases c32 : t216 = t223
   ·rw [if_pos c32] at H
    have c32b0 : (t216 == t223) = true:=beq_iff_eq.mpr c32
    have c32b1 : (t216 != t223) = false:=bne_eq_false_iff_eq.mpr c32
    clear c32
    (first|rw [c32b0]|(simp only [i64_w,i32_w];rw [c32b0])|skip)
    have H':=Aside0.mk H
    clear H
    have hnb33:=NB230_213.out
    have hnc33:=NB213_230.out
    have hnb34:=NB230_214.out
    have hnc34:=NB214_230.out
    have hnb35:=NB230_231.out
    have hnc35:=NB231_230.out
    have hcz36_0 : w19.cell? ⟨gb230,0,none⟩ = some (.int .i64 0):=(blk_cell BK230.out 0).trans rfl
    have hcz36_1 : w19.cell? ⟨gb230,1,none⟩ = some (.int .i64 0):=(blk_cell BK230.out 1).trans rfl
    have hcz36_2 : w19.cell? ⟨gb230,2,none⟩ = some (.slice none 0 0):=(blk_cell BK230.out 2).trans rfl
    have hcz36_3 : w19.cell? ⟨gb230,3,none⟩ = some (.int .i64 0):=(blk_cell BK230.out 3).trans rfl
    have hcz36_4 : w19.cell? ⟨gb230,4,none⟩ = some (.int .u32 0):=(blk_cell BK230.out 4).trans rfl
    have hfz36_0:=blk_frozen BK230.out 0
    have hfz36_1:=blk_frozen BK230.out 1
    have hfz36_2:=blk_frozen BK230.out 2
    have hfz36_3:=blk_frozen BK230.out 3
    have hfz36_4:=blk_frozen BK230.out 4
    have hnb37:=NB231_213.out
    have hnc37:=NB213_231.out
    have hnb38:=NB231_214.out
    have hnc38:=NB214_231.out
    have hcz39_0 : w19.cell? ⟨gb231,0,none⟩ = some (.int .i64 0):=(blk_cell BK231.out 0).trans rfl
    have hcz39_1 : w19.cell? ⟨gb231,1,none⟩ = some (.int .i64 0):=(blk_cell BK231.out 1).trans rfl
    have hcz39_2 : w19.cell? ⟨gb231,2,none⟩ = some (.slice none 0 0):=(blk_cell BK231.out 2).trans rfl
    have hcz39_3 : w19.cell? ⟨gb231,3,none⟩ = some (.int .i64 0):=(blk_cell BK231.out 3).trans rfl
    have hcz39_4 : w19.cell? ⟨gb231,4,none⟩ = some (.int .u32 0):=(blk_cell BK231.out 4).trans rfl
    have hfz39_0:=blk_frozen BK231.out 0
    have hfz39_1:=blk_frozen BK231.out 1
    have hfz39_2:=blk_frozen BK231.out 2
    have hfz39_3:=blk_frozen BK231.out 3
    have hfz39_4:=blk_frozen BK231.out 4
    go_wp2
    go_meet
    case rel=>exact ⟨_,((t222 == t229)),(by first|rfl|(simp;done)|(simp [*];done)),H',⟨by first|omega|exact Nat.le_refl _⟩,⟨by (with_reducible repeat (first|apply Kd.S_alloc|apply Kd.S_drewN|apply Kd.S_drew));exact Kd.S_mono (Kd.S_far (p:=⟨gb231,4,none⟩) (Kd.S_far (p:=⟨gb231,3,none⟩) (Kd.S_far (p:=⟨gb231,2,none⟩) (Kd.S_far (p:=⟨gb231,1,none⟩) (Kd.S_far (p:=⟨gb231,0,none⟩) (Kd.S_far (p:=⟨gb230,4,none⟩) (Kd.S_far (p:=⟨gb230,3,none⟩) (Kd.S_far (p:=⟨gb230,2,none⟩) (Kd.S_far (p:=⟨gb230,1,none⟩) (Kd.S_far (p:=⟨gb230,0,none⟩) (Kd.S_types (Kd.S_types HO220.out BK230.out (by decide)) BK231.out (by decide)) (fun _ hk=>hk.1.2) (.int .i64 t216)) (fun _ hk=>hk.1.2) (.int .i64 t217)) (fun _ hk=>hk.1.2) (.slice Ao22 t218.length co22)) (fun _ hk=>hk.1.2) (.int .i64 t221)) (fun _ hk=>hk.1.2) (.int .u32 t222)) (fun _ hk=>hk.2) (.int .i64 t223)) (fun _ hk=>hk.2) (.int .i64 t224)) (fun _ hk=>hk.2) (.slice Ao28 t225.length co28)) (fun _ hk=>hk.2) (.int .i64 t228)) (fun _ hk=>hk.2) (.int .u32 t229)) (fun _ hk=>hk.1.1)⟩,⟨by (with_reducible repeat (first|apply Kd.S_alloc|apply Kd.S_drewN|apply Kd.S_drew));exact Kd.S_mono (Kd.S_far (p:=⟨gb231,4,none⟩) (Kd.S_far (p:=⟨gb231,3,none⟩) (Kd.S_far (p:=⟨gb231,2,none⟩) (Kd.S_far (p:=⟨gb231,1,none⟩) (Kd.S_far (p:=⟨gb231,0,none⟩) (Kd.S_far (p:=⟨gb230,4,none⟩) (Kd.S_far (p:=⟨gb230,3,none⟩) (Kd.S_far (p:=⟨gb230,2,none⟩) (Kd.S_far (p:=⟨gb230,1,none⟩) (Kd.S_far (p:=⟨gb230,0,none⟩) (Kd.S_types (Kd.S_types HO227.out BK230.out (by decide)) BK231.out (by decide)) (fun _ hk=>hk.1.2) (.int .i64 t216)) (fun _ hk=>hk.1.2) (.int .i64 t217)) (fun _ hk=>hk.1.2) (.slice Ao22 t218.length co22)) (fun _ hk=>hk.1.2) (.int .i64 t221)) (fun _ hk=>hk.1.2) (.int .u32 t222)) (fun _ hk=>hk.2) (.int .i64 t223)) (fun _ hk=>hk.2) (.int .i64 t224)) (fun _ hk=>hk.2) (.slice Ao28 t225.length co28)) (fun _ hk=>hk.2) (.int .i64 t228)) (fun _ hk=>hk.2) (.int .u32 t229)) (fun _ hk=>hk.1.1)⟩,⟨by (with_reducible repeat (first|refine blk_drewN ?_ _|refine blk_drew ?_|refine blk_alloc ?_ _));refine blk_far ?_ NB213_231.out _;(with_reducible repeat (first|refine blk_drewN ?_ _|refine blk_drew ?_|refine blk_alloc ?_ _));refine blk_far ?_ NB213_231.out _;(with_reducible repeat (first|refine blk_drewN ?_ _|refine blk_drew ?_|refine blk_alloc ?_ _));refine blk_far ?_ NB213_231.out _;(with_reducible repeat (first|refine blk_drewN ?_ _|refine blk_drew ?_|refine blk_alloc ?_ _));refine blk_far ?_ NB213_231.out _;(with_reducible repeat (first|refine blk_drewN ?_ _|refine blk_drew ?_|refine blk_alloc ?_ _));refine blk_far ?_ NB213_231.out _;(with_reducible repeat (first|refine blk_drewN ?_ _|refine blk_drew ?_|refine blk_alloc ?_ _));refine blk_far ?_ NB213_230.out _;(with_reducible repeat (first|refine blk_drewN ?_ _|refine blk_drew ?_|refine blk_alloc ?_ _));refine blk_far ?_ NB213_230.out _;(with_reducible repeat (first|refine blk_drewN ?_ _|refine blk_drew ?_|refine blk_alloc ?_ _));refine blk_far ?_ NB213_230.out _;(with_reducible repeat (first|refine blk_drewN ?_ _|refine blk_drew ?_|refine blk_alloc ?_ _));refine blk_far ?_ NB213_230.out _;(with_reducible repeat (first|refine blk_drewN ?_ _|refine blk_drew ?_|refine blk_alloc ?_ _));refine blk_far ?_ NB213_230.out _;(with_reducible repeat (first|refine blk_drewN ?_ _|refine blk_drew ?_|refine blk_alloc ?_ _));exact BK213.out⟩,⟨by (with_reducible repeat (first|refine blk_drewN ?_ _|refine blk_drew ?_|refine blk_alloc ?_ _));refine blk_far ?_ NB214_231.out _;(with_reducible repeat (first|refine blk_drewN ?_ _|refine blk_drew ?_|refine blk_alloc ?_ _));refine blk_far ?_ NB214_231.out _;(with_reducible repeat (first|refine blk_drewN ?_ _|refine blk_drew ?_|refine blk_alloc ?_ _));refine blk_far ?_ NB214_231.out _;(with_reducible repeat (first|refine blk_drewN ?_ _|refine blk_drew ?_|refine blk_alloc ?_ _));refine blk_far ?_ NB214_231.out _;(with_reducible repeat (first|refine blk_drewN ?_ _|refine blk_drew ?_|refine blk_alloc ?_ _));refine blk_far ?_ NB214_231.out _;(with_reducible repeat (first|refine blk_drewN ?_ _|refine blk_drew ?_|refine blk_alloc ?_ _));refine blk_far ?_ NB214_230.out _;(with_reducible repeat (first|refine blk_drewN ?_ _|refine blk_drew ?_|refine blk_alloc ?_ _));refine blk_far ?_ NB214_230.out _;(with_reducible repeat (first|refine blk_drewN ?_ _|refine blk_drew ?_|refine blk_alloc ?_ _));refine blk_far ?_ NB214_230.out _;(with_reducible repeat (first|refine blk_drewN ?_ _|refine blk_drew ?_|refine blk_alloc ?_ _));refine blk_far ?_ NB214_230.out _;(with_reducible repeat (first|refine blk_drewN ?_ _|refine blk_drew ?_|refine blk_alloc ?_ _));refine blk_far ?_ NB214_230.out _;(with_reducible repeat (first|refine blk_drewN ?_ _|refine blk_drew ?_|refine blk_alloc ?_ _));exact BK214.out⟩,⟨by (with_reducible repeat (first|refine blk_drewN ?_ _|refine blk_drew ?_|refine blk_alloc ?_ _));refine blk_far ?_ NB230_231.out _;(with_reducible repeat (first|refine blk_drewN ?_ _|refine blk_drew ?_|refine blk_alloc ?_ _));refine blk_far ?_ NB230_231.out _;(with_reducible repeat (first|refine blk_drewN ?_ _|refine blk_drew ?_|refine blk_alloc ?_ _));refine blk_far ?_ NB230_231.out _;(with_reducible repeat (first|refine blk_drewN ?_ _|refine blk_drew ?_|refine blk_alloc ?_ _));refine blk_far ?_ NB230_231.out _;(with_reducible repeat (first|refine blk_drewN ?_ _|refine blk_drew ?_|refine blk_alloc ?_ _));refine blk_far ?_ NB230_231.out _;(with_reducible repeat (first|refine blk_drewN ?_ _|refine blk_drew ?_|refine blk_alloc ?_ _));refine blk_put (cs:=#[.int .i64 t216,.int .i64 t217,.slice Ao22 t218.length co22,.int .i64 t221,.int .u32 0]) ?_ 4 _ rfl;(with_reducible repeat (first|refine blk_drewN ?_ _|refine blk_drew ?_|refine blk_alloc ?_ _));refine blk_put (cs:=#[.int .i64 t216,.int .i64 t217,.slice Ao22 t218.length co22,.int .i64 0,.int .u32 0]) ?_ 3 _ rfl;(with_reducible repeat (first|refine blk_drewN ?_ _|refine blk_drew ?_|refine blk_alloc ?_ _));refine blk_put (cs:=#[.int .i64 t216,.int .i64 t217,.slice none 0 0,.int .i64 0,.int .u32 0]) ?_ 2 _ rfl;(with_reducible repeat (first|refine blk_drewN ?_ _|refine blk_drew ?_|refine blk_alloc ?_ _));refine blk_put (cs:=#[.int .i64 t216,.int .i64 0,.slice none 0 0,.int .i64 0,.int .u32 0]) ?_ 1 _ rfl;(with_reducible repeat (first|refine blk_drewN ?_ _|refine blk_drew ?_|refine blk_alloc ?_ _));refine blk_put (cs:=#[.int .i64 0,.int .i64 0,.slice none 0 0,.int .i64 0,.int .u32 0]) ?_ 0 _ rfl;(with_reducible repeat (first|refine blk_drewN ?_ _|refine blk_drew ?_|refine blk_alloc ?_ _));exact BK230.out⟩,⟨by (with_reducible repeat (first|refine blk_drewN ?_ _|refine blk_drew ?_|refine blk_alloc ?_ _));refine blk_put (cs:=#[.int .i64 t223,.int .i64 t224,.slice Ao28 t225.length co28,.int .i64 t228,.int .u32 0]) ?_ 4 _ rfl;(with_reducible repeat (first|refine blk_drewN ?_ _|refine blk_drew ?_|refine blk_alloc ?_ _));refine blk_put (cs:=#[.int .i64 t223,.int .i64 t224,.slice Ao28 t225.length co28,.int .i64 0,.int .u32 0]) ?_ 3 _ rfl;(with_reducible repeat (first|refine blk_drewN ?_ _|refine blk_drew ?_|refine blk_alloc ?_ _));refine blk_put (cs:=#[.int .i64 t223,.int .i64 t224,.slice none 0 0,.int .i64 0,.int .u32 0]) ?_ 2 _ rfl;(with_reducible repeat (first|refine blk_drewN ?_ _|refine blk_drew ?_|refine blk_alloc ?_ _));refine blk_put (cs:=#[.int .i64 t223,.int .i64 0,.slice none 0 0,.int .i64 0,.int .u32 0]) ?_ 1 _ rfl;(with_reducible repeat (first|refine blk_drewN ?_ _|refine blk_drew ?_|refine blk_alloc ?_ _));refine blk_put (cs:=#[.int .i64 0,.int .i64 0,.slice none 0 0,.int .i64 0,.int .u32 0]) ?_ 0 _ rfl;(with_reducible repeat (first|refine blk_drewN ?_ _|refine blk_drew ?_|refine blk_alloc ?_ _));refine blk_far ?_ NB231_230.out _;(with_reducible repeat (first|refine blk_drewN ?_ _|refine blk_drew ?_|refine blk_alloc ?_ _));refine blk_far ?_ NB231_230.out _;(with_reducible repeat (first|refine blk_drewN ?_ _|refine blk_drew ?_|refine blk_alloc ?_ _));refine blk_far ?_ NB231_230.out _;(with_reducible repeat (first|refine blk_drewN ?_ _|refine blk_drew ?_|refine blk_alloc ?_ _));refine blk_far ?_ NB231_230.out _;(with_reducible repeat (first|refine blk_drewN ?_ _|refine blk_drew ?_|refine blk_alloc ?_ _));refine blk_far ?_ NB231_230.out _;(with_reducible repeat (first|refine blk_drewN ?_ _|refine blk_drew ?_|refine blk_alloc ?_ _));exact BK231.out⟩,⟨by repeat (first|(with_reducible first|exact HB.out|apply below_alloc|apply pw_below_drewN|apply below_drew1|refine below_set ?_ GE213.out|refine below_set ?_ GE214.out|refine below_set ?_ GE230.out|refine below_set ?_ GE231.out)|exact HB.out)⟩⟩
   ·rw [if_neg c32] at H
    have c32b0 : (t216 == t223) = false:=beq_eq_false_iff_ne.mpr c32
    have c32b1 : (t216 != t223) = true:=bne_iff_ne.mpr c32
    (first|rw [c32b0]|(simp only [i64_w,i32_w];rw [c32b0])|skip)
    have H':=Aside0.mk H
    clear H
    have hnb40:=NB230_213.out
    have hnc40:=NB213_230.out
    have hnb41:=NB230_214.out
    have hnc41:=NB214_230.out
    have hnb42:=NB230_231.out
    have hnc42:=NB231_230.out
    have hcz43_0 : w19.cell? ⟨gb230,0,none⟩ = some (.int .i64 0):=(blk_cell BK230.out 0).trans rfl
    have hcz43_1 : w19.cell? ⟨gb230,1,none⟩ = some (.int .i64 0):=(blk_cell BK230.out 1).trans rfl
    have hcz43_2 : w19.cell? ⟨gb230,2,none⟩ = some (.slice none 0 0):=(blk_cell BK230.out 2).trans rfl
    have hcz43_3 : w19.cell? ⟨gb230,3,none⟩ = some (.int .i64 0):=(blk_cell BK230.out 3).trans rfl
    have hcz43_4 : w19.cell? ⟨gb230,4,none⟩ = some (.int .u32 0):=(blk_cell BK230.out 4).trans rfl
    have hfz43_0:=blk_frozen BK230.out 0
    have hfz43_1:=blk_frozen BK230.out 1
    have hfz43_2:=blk_frozen BK230.out 2
    have hfz43_3:=blk_frozen BK230.out 3
    have hfz43_4:=blk_frozen BK230.out 4
    have hnb44:=NB231_213.out
    have hnc44:=NB213_231.out
    have hnb45:=NB231_214.out
    have hnc45:=NB214_231.out
    have hcz46_0 : w19.cell? ⟨gb231,0,none⟩ = some (.int .i64 0):=(blk_cell BK231.out 0).trans rfl
    have hcz46_1 : w19.cell? ⟨gb231,1,none⟩ = some (.int .i64 0):=(blk_cell BK231.out 1).trans rfl
    have hcz46_2 : w19.cell? ⟨gb231,2,none⟩ = some (.slice none 0 0):=(blk_cell BK231.out 2).trans rfl
    have hcz46_3 : w19.cell? ⟨gb231,3,none⟩ = some (.int .i64 0):=(blk_cell BK231.out 3).trans rfl
    have hcz46_4 : w19.cell? ⟨gb231,4,none⟩ = some (.int .u32 0):=(blk_cell BK231.out 4).trans rfl
    have hfz46_0:=blk_frozen BK231.out 0
    have hfz46_1:=blk_frozen BK231.out 1
    have hfz46_2:=blk_frozen BK231.out 2
    have hfz46_3:=blk_frozen BK231.out 3
    have hfz46_4:=blk_frozen BK231.out 4
    go_wp2
    go_meet
    case rel=>exact ⟨_,(false),(by first|rfl|(simp;done)|(simp [*];done)),H',⟨by first|omega|exact Nat.le_refl _⟩,⟨by (with_reducible repeat (first|apply Kd.S_alloc|apply Kd.S_drewN|apply Kd.S_drew));exact Kd.S_mono (Kd.S_far (p:=⟨gb231,4,none⟩) (Kd.S_far (p:=⟨gb231,3,none⟩) (Kd.S_far (p:=⟨gb231,2,none⟩) (Kd.S_far (p:=⟨gb231,1,none⟩) (Kd.S_far (p:=⟨gb231,0,none⟩) (Kd.S_far (p:=⟨gb230,4,none⟩) (Kd.S_far (p:=⟨gb230,3,none⟩) (Kd.S_far (p:=⟨gb230,2,none⟩) (Kd.S_far (p:=⟨gb230,1,none⟩) (Kd.S_far (p:=⟨gb230,0,none⟩) (Kd.S_types (Kd.S_types HO220.out BK230.out (by decide)) BK231.out (by decide)) (fun _ hk=>hk.1.2) (.int .i64 t216)) (fun _ hk=>hk.1.2) (.int .i64 t217)) (fun _ hk=>hk.1.2) (.slice Ao22 t218.length co22)) (fun _ hk=>hk.1.2) (.int .i64 t221)) (fun _ hk=>hk.1.2) (.int .u32 t222)) (fun _ hk=>hk.2) (.int .i64 t223)) (fun _ hk=>hk.2) (.int .i64 t224)) (fun _ hk=>hk.2) (.slice Ao28 t225.length co28)) (fun _ hk=>hk.2) (.int .i64 t228)) (fun _ hk=>hk.2) (.int .u32 t229)) (fun _ hk=>hk.1.1)⟩,⟨by (with_reducible repeat (first|apply Kd.S_alloc|apply Kd.S_drewN|apply Kd.S_drew));exact Kd.S_mono (Kd.S_far (p:=⟨gb231,4,none⟩) (Kd.S_far (p:=⟨gb231,3,none⟩) (Kd.S_far (p:=⟨gb231,2,none⟩) (Kd.S_far (p:=⟨gb231,1,none⟩) (Kd.S_far (p:=⟨gb231,0,none⟩) (Kd.S_far (p:=⟨gb230,4,none⟩) (Kd.S_far (p:=⟨gb230,3,none⟩) (Kd.S_far (p:=⟨gb230,2,none⟩) (Kd.S_far (p:=⟨gb230,1,none⟩) (Kd.S_far (p:=⟨gb230,0,none⟩) (Kd.S_types (Kd.S_types HO227.out BK230.out (by decide)) BK231.out (by decide)) (fun _ hk=>hk.1.2) (.int .i64 t216)) (fun _ hk=>hk.1.2) (.int .i64 t217)) (fun _ hk=>hk.1.2) (.slice Ao22 t218.length co22)) (fun _ hk=>hk.1.2) (.int .i64 t221)) (fun _ hk=>hk.1.2) (.int .u32 t222)) (fun _ hk=>hk.2) (.int .i64 t223)) (fun _ hk=>hk.2) (.int .i64 t224)) (fun _ hk=>hk.2) (.slice Ao28 t225.length co28)) (fun _ hk=>hk.2) (.int .i64 t228)) (fun _ hk=>hk.2) (.int .u32 t229)) (fun _ hk=>hk.1.1)⟩,⟨by (with_reducible repeat (first|refine blk_drewN ?_ _|refine blk_drew ?_|refine blk_alloc ?_ _));refine blk_far ?_ NB213_231.out _;(with_reducible repeat (first|refine blk_drewN ?_ _|refine blk_drew ?_|refine blk_alloc ?_ _));refine blk_far ?_ NB213_231.out _;(with_reducible repeat (first|refine blk_drewN ?_ _|refine blk_drew ?_|refine blk_alloc ?_ _));refine blk_far ?_ NB213_231.out _;(with_reducible repeat (first|refine blk_drewN ?_ _|refine blk_drew ?_|refine blk_alloc ?_ _));refine blk_far ?_ NB213_231.out _;(with_reducible repeat (first|refine blk_drewN ?_ _|refine blk_drew ?_|refine blk_alloc ?_ _));refine blk_far ?_ NB213_231.out _;(with_reducible repeat (first|refine blk_drewN ?_ _|refine blk_drew ?_|refine blk_alloc ?_ _));refine blk_far ?_ NB213_230.out _;(with_reducible repeat (first|refine blk_drewN ?_ _|refine blk_drew ?_|refine blk_alloc ?_ _));refine blk_far ?_ NB213_230.out _;(with_reducible repeat (first|refine blk_drewN ?_ _|refine blk_drew ?_|refine blk_alloc ?_ _));refine blk_far ?_ NB213_230.out _;(with_reducible repeat (first|refine blk_drewN ?_ _|refine blk_drew ?_|refine blk_alloc ?_ _));refine blk_far ?_ NB213_230.out _;(with_reducible repeat (first|refine blk_drewN ?_ _|refine blk_drew ?_|refine blk_alloc ?_ _));refine blk_far ?_ NB213_230.out _;(with_reducible repeat (first|refine blk_drewN ?_ _|refine blk_drew ?_|refine blk_alloc ?_ _));exact BK213.out⟩,⟨by (with_reducible repeat (first|refine blk_drewN ?_ _|refine blk_drew ?_|refine blk_alloc ?_ _));refine blk_far ?_ NB214_231.out _;(with_reducible repeat (first|refine blk_drewN ?_ _|refine blk_drew ?_|refine blk_alloc ?_ _));refine blk_far ?_ NB214_231.out _;(with_reducible repeat (first|refine blk_drewN ?_ _|refine blk_drew ?_|refine blk_alloc ?_ _));refine blk_far ?_ NB214_231.out _;(with_reducible repeat (first|refine blk_drewN ?_ _|refine blk_drew ?_|refine blk_alloc ?_ _));refine blk_far ?_ NB214_231.out _;(with_reducible repeat (first|refine blk_drewN ?_ _|refine blk_drew ?_|refine blk_alloc ?_ _));refine blk_far ?_ NB214_231.out _;(with_reducible repeat (first|refine blk_drewN ?_ _|refine blk_drew ?_|refine blk_alloc ?_ _));refine blk_far ?_ NB214_230.out _;(with_reducible repeat (first|refine blk_drewN ?_ _|refine blk_drew ?_|refine blk_alloc ?_ _));refine blk_far ?_ NB214_230.out _;(with_reducible repeat (first|refine blk_drewN ?_ _|refine blk_drew ?_|refine blk_alloc ?_ _));refine blk_far ?_ NB214_230.out _;(with_reducible repeat (first|refine blk_drewN ?_ _|refine blk_drew ?_|refine blk_alloc ?_ _));refine blk_far ?_ NB214_230.out _;(with_reducible repeat (first|refine blk_drewN ?_ _|refine blk_drew ?_|refine blk_alloc ?_ _));refine blk_far ?_ NB214_230.out _;(with_reducible repeat (first|refine blk_drewN ?_ _|refine blk_drew ?_|refine blk_alloc ?_ _));exact BK214.out⟩,⟨by (with_reducible repeat (first|refine blk_drewN ?_ _|refine blk_drew ?_|refine blk_alloc ?_ _));refine blk_far ?_ NB230_231.out _;(with_reducible repeat (first|refine blk_drewN ?_ _|refine blk_drew ?_|refine blk_alloc ?_ _));refine blk_far ?_ NB230_231.out _;(with_reducible repeat (first|refine blk_drewN ?_ _|refine blk_drew ?_|refine blk_alloc ?_ _));refine blk_far ?_ NB230_231.out _;(with_reducible repeat (first|refine blk_drewN ?_ _|refine blk_drew ?_|refine blk_alloc ?_ _));refine blk_far ?_ NB230_231.out _;(with_reducible repeat (first|refine blk_drewN ?_ _|refine blk_drew ?_|refine blk_alloc ?_ _));refine blk_far ?_ NB230_231.out _;(with_reducible repeat (first|refine blk_drewN ?_ _|refine blk_drew ?_|refine blk_alloc ?_ _));refine blk_put (cs:=#[.int .i64 t216,.int .i64 t217,.slice Ao22 t218.length co22,.int .i64 t221,.int .u32 0]) ?_ 4 _ rfl;(with_reducible repeat (first|refine blk_drewN ?_ _|refine blk_drew ?_|refine blk_alloc ?_ _));refine blk_put (cs:=#[.int .i64 t216,.int .i64 t217,.slice Ao22 t218.length co22,.int .i64 0,.int .u32 0]) ?_ 3 _ rfl;(with_reducible repeat (first|refine blk_drewN ?_ _|refine blk_drew ?_|refine blk_alloc ?_ _));refine blk_put (cs:=#[.int .i64 t216,.int .i64 t217,.slice none 0 0,.int .i64 0,.int .u32 0]) ?_ 2 _ rfl;(with_reducible repeat (first|refine blk_drewN ?_ _|refine blk_drew ?_|refine blk_alloc ?_ _));refine blk_put (cs:=#[.int .i64 t216,.int .i64 0,.slice none 0 0,.int .i64 0,.int .u32 0]) ?_ 1 _ rfl;(with_reducible repeat (first|refine blk_drewN ?_ _|refine blk_drew ?_|refine blk_alloc ?_ _));refine blk_put (cs:=#[.int .i64 0,.int .i64 0,.slice none 0 0,.int .i64 0,.int .u32 0]) ?_ 0 _ rfl;(with_reducible repeat (first|refine blk_drewN ?_ _|refine blk_drew ?_|refine blk_alloc ?_ _));exact BK230.out⟩,⟨by (with_reducible repeat (first|refine blk_drewN ?_ _|refine blk_drew ?_|refine blk_alloc ?_ _));refine blk_put (cs:=#[.int .i64 t223,.int .i64 t224,.slice Ao28 t225.length co28,.int .i64 t228,.int .u32 0]) ?_ 4 _ rfl;(with_reducible repeat (first|refine blk_drewN ?_ _|refine blk_drew ?_|refine blk_alloc ?_ _));refine blk_put (cs:=#[.int .i64 t223,.int .i64 t224,.slice Ao28 t225.length co28,.int .i64 0,.int .u32 0]) ?_ 3 _ rfl;(with_reducible repeat (first|refine blk_drewN ?_ _|refine blk_drew ?_|refine blk_alloc ?_ _));refine blk_put (cs:=#[.int .i64 t223,.int .i64 t224,.slice none 0 0,.int .i64 0,.int .u32 0]) ?_ 2 _ rfl;(with_reducible repeat (first|refine blk_drewN ?_ _|refine blk_drew ?_|refine blk_alloc ?_ _));refine blk_put (cs:=#[.int .i64 t223,.int .i64 0,.slice none 0 0,.int .i64 0,.int .u32 0]) ?_ 1 _ rfl;(with_reducible repeat (first|refine blk_drewN ?_ _|refine blk_drew ?_|refine blk_alloc ?_ _));refine blk_put (cs:=#[.int .i64 0,.int .i64 0,.slice none 0 0,.int .i64 0,.int .u32 0]) ?_ 0 _ rfl;(with_reducible repeat (first|refine blk_drewN ?_ _|refine blk_drew ?_|refine blk_alloc ?_ _));refine blk_far ?_ NB231_230.out _;(with_reducible repeat (first|refine blk_drewN ?_ _|refine blk_drew ?_|refine blk_alloc ?_ _));refine blk_far ?_ NB231_230.out _;(with_reducible repeat (first|refine blk_drewN ?_ _|refine blk_drew ?_|refine blk_alloc ?_ _));refine blk_far ?_ NB231_230.out _;(with_reducible repeat (first|refine blk_drewN ?_ _|refine blk_drew ?_|refine blk_alloc ?_ _));refine blk_far ?_ NB231_230.out _;(with_reducible repeat (first|refine blk_drewN ?_ _|refine blk_drew ?_|refine blk_alloc ?_ _));refine blk_far ?_ NB231_230.out _;(with_reducible repeat (first|refine blk_drewN ?_ _|refine blk_drew ?_|refine blk_alloc ?_ _));exact BK231.out⟩,⟨by repeat (first|(with_reducible first|exact HB.out|apply below_alloc|apply pw_below_drewN|apply below_drew1|refine below_set ?_ GE213.out|refine below_set ?_ GE214.out|refine below_set ?_ GE230.out|refine below_set ?_ GE231.out)|exact HB.out)⟩⟩
  case rest =>
   clear HC7
   try clear c1
   try clear p2
   try clear c3
   try clear c4
   try clear c5
   try clear c32
   try clear c32b0
   try clear c32b1
   try clear c33
   try clear c34
   try clear c35
   try clear c37
   try clear c38
   try clear c40
   try clear c41
   try clear c42
   try clear c44
   try clear c45
   try clear hcz36_0
   try clear hcz36_1
   try clear hcz36_2
   try clear hcz36_3
   try clear hcz36_4
   try clear hcz39_0
   try clear hcz39_1
   try clear hcz39_2
   try clear hcz39_3
   try clear hcz39_4
   try clear hcz43_0
   try clear hcz43_1
   try clear hcz43_2
   try clear hcz43_3
   try clear hcz43_4
   try clear hcz46_0
   try clear hcz46_1
   try clear hcz46_2
   try clear hcz46_3
   try clear hcz46_4
   try clear hfz36_0
   try clear hfz36_1
   try clear hfz36_2
   try clear hfz36_3
   try clear hfz36_4
   try clear hfz39_0
   try clear hfz39_1
   try clear hfz39_2
   try clear hfz39_3
   try clear hfz39_4
   try clear hfz43_0
   try clear hfz43_1
   try clear hfz43_2
   try clear hfz43_3
   try clear hfz43_4
   try clear hfz46_0
   try clear hfz46_1
   try clear hfz46_2
   try clear hfz46_3
   try clear hfz46_4
   obtain ⟨kq,x9_6,rfl,HA,HJ6,HO_231002,HO_232002,BK213,BK214,BK230,BK231,HB⟩:=hcut
   cases kq with
   | zero=>exact absurd HA.out (by simp [least_Same.j0])
   | succ kj6 =>
    have H:=HA.out
    clear HA
    simp only [least_Same.j0] at H
    have H':=Aside0.mk H
    clear H
    go_wp2
    go_loopg [9,10] kj6 (fun kq v9 v10 w'=>∃ (x9_2 : Bool) (x10_2 : Int),v9 = .bool x9_2 ∧ v10 = .int .i64 x10_2 ∧ Aside0 (least_Same.l0 kq x9_2 x10_2 t216 t217 t218 t221 t222 t223 t224 t225 t228 t229 = some (r1,r2)) ∧ Aside0 (kq ≤ kj6) ∧ Aside0 (Kd.S (Kd.slice 3 (Kd.int .i64)) 28 w' w.heap.size (fun k_=>some k_ ≠ ((.slice Ao28 t225.length co28) : Value).ownBlock) (.slice Ao22 t218.length co22) t218) ∧ Aside0 (Kd.S (Kd.slice 3 (Kd.int .i64)) 28 w' w.heap.size (fun k_=>some k_ ≠ ((.slice Ao22 t218.length co22) : Value).ownBlock) (.slice Ao28 t225.length co28) t225) ∧ Aside0 (w'.heap[gb213]? = some (.cells #[.int .i64 a0_0,.int .i64 a0_1,(.slice A0_2 l0_2.length c0_2),.int .i64 a0_3,.int .u32 a0_4] 37 (0,0))) ∧ Aside0 (w'.heap[gb214]? = some (.cells #[.int .i64 a1_0,.int .i64 a1_1,(.slice A1_2 l1_2.length c1_2),.int .i64 a1_3,.int .u32 a1_4] 37 (0,0))) ∧ Aside0 (w'.heap[gb230]? = some (.cells #[.int .i64 t216,.int .i64 t217,(.slice Ao22 t218.length co22),.int .i64 t221,.int .u32 t222] 37 (0,0))) ∧ Aside0 (w'.heap[gb231]? = some (.cells #[.int .i64 t223,.int .i64 t224,(.slice Ao28 t225.length co28),.int .i64 t228,.int .u32 t229] 37 (0,0))) ∧ Aside0 (Below w.heap.size w w'))
    case atStart=>exact ⟨(x9_6),(0),(by first|rfl|(simp;done)|(simp [*];done)),(by first|rfl|(simp;done)|(simp [*];done)),H',⟨Nat.le_refl _⟩,⟨by (with_reducible repeat (first|apply Kd.S_alloc|apply Kd.S_drewN|apply Kd.S_drew));exact HO_231002.out⟩,⟨by (with_reducible repeat (first|apply Kd.S_alloc|apply Kd.S_drewN|apply Kd.S_drew));exact HO_232002.out⟩,⟨by (with_reducible repeat (first|refine blk_drewN ?_ _|refine blk_drew ?_|refine blk_alloc ?_ _));exact BK213.out⟩,⟨by (with_reducible repeat (first|refine blk_drewN ?_ _|refine blk_drew ?_|refine blk_alloc ?_ _));exact BK214.out⟩,⟨by (with_reducible repeat (first|refine blk_drewN ?_ _|refine blk_drew ?_|refine blk_alloc ?_ _));exact BK230.out⟩,⟨by (with_reducible repeat (first|refine blk_drewN ?_ _|refine blk_drew ?_|refine blk_alloc ?_ _));exact BK231.out⟩,⟨by repeat (first|(with_reducible first|exact HB.out|apply below_alloc|apply pw_below_drewN|apply below_drew1|refine below_set ?_ GE213.out|refine below_set ?_ GE214.out|refine below_set ?_ GE230.out|refine below_set ?_ GE231.out)|exact HB.out)⟩⟩
    case round =>
     clear H'
     try clear c1
     try clear p2
     try clear c3
     try clear c4
     try clear c5
     try clear c32
     try clear c32b0
     try clear c32b1
     try clear c33
     try clear c34
     try clear c35
     try clear c37
     try clear c38
     try clear c40
     try clear c41
     try clear c42
     try clear c44
     try clear c45
     try clear hcz36_0
     try clear hcz36_1
     try clear hcz36_2
     try clear hcz36_3
     try clear hcz36_4
     try clear hcz39_0
     try clear hcz39_1
     try clear hcz39_2
     try clear hcz39_3
     try clear hcz39_4
     try clear hcz43_0
     try clear hcz43_1
     try clear hcz43_2
     try clear hcz43_3
     try clear hcz43_4
     try clear hcz46_0
     try clear hcz46_1
     try clear hcz46_2
     try clear hcz46_3
     try clear hcz46_4
     try clear hfz36_0
     try clear hfz36_1
     try clear hfz36_2
     try clear hfz36_3
     try clear hfz36_4
     try clear hfz39_0
     try clear hfz39_1
     try clear hfz39_2
     try clear hfz39_3
     try clear hfz39_4
     try clear hfz43_0
     try clear hfz43_1
     try clear hfz43_2
     try clear hfz43_3
     try clear hfz43_4
     try clear hfz46_0
     try clear hfz46_1
     try clear hfz46_2
     try clear hfz46_3
     try clear hfz46_4
     try clear p2
     obtain ⟨x9_2,x10_2,rfl,rfl,HA,HK2,HO_231002,HO_232002,BK213,BK214,BK230,BK231,HB⟩:=hrel
     cases gk with
     | zero=>exact absurd HA.out (by simp [least_Same.l0])
     | succ k2 =>
      have H:=HA.out
      clear HA
      simp only [least_Same.l0] at H
      by_cases c47 : x10_2 < t216
      ·rw [if_pos c47] at H
       have c47b0 : decide (x10_2 < t216) = true:=decide_eq_true c47
       clear c47
       by_cases c48 : x9_2 = true
       ·subst c48
        have H1 : (if 0 ≤ x10_2 then (if x10_2 < (t218.length : Int) then (if x10_2 < (t225.length : Int) then ((slices_Equal_int_int.f k2 (rd_L1 t218 x10_2) (rd_L1 t225 x10_2)).bind fun t234=>(least_Same.l0 k2 t234 (wrap64 (x10_2 + 1)) t216 t217 t218 t221 t222 t223 t224 t225 t228 t229)) else (none)) else (none)) else (none)) = some (r1,r2):=by rw [if_pos rfl] at H;exact H
        clear H
        have H:=H1
        clear H1
        by_cases c49 : 0 ≤ x10_2
        ·rw [if_pos c49] at H
         have c49b0 : decide (0 ≤ x10_2) = true:=decide_eq_true c49
         clear c49
         by_cases c50 : x10_2 < (t218.length : Int)
         ·rw [if_pos c50] at H
          have c50b0 : decide (x10_2 < (t218.length : Int)) = true:=decide_eq_true c50
          clear c50
          by_cases c51 : x10_2 < (t225.length : Int)
          ·rw [if_pos c51] at H
           have c51b0 : decide (x10_2 < (t225.length : Int)) = true:=decide_eq_true c51
           clear c51
           replace H:=Option.bind_eq_some_iff.mp H
           obtain ⟨t234,A520,H⟩:=H
           replace H : (least_Same.l0 k2 t234 (wrap64 (x10_2 + 1)) t216 t217 t218 t221 t222 t223 t224 t225 t228 t229) = some (r1,r2):=H
           have A52:=Aside0.mk A520
           clear A520
           have H':=Aside0.mk H
           clear H
           have hnb53:=NB230_213.out
           have hnc53:=NB213_230.out
           have hnb54:=NB230_214.out
           have hnc54:=NB214_230.out
           have hnb55:=NB230_231.out
           have hnc55:=NB231_230.out
           have hcz56_0 : wr.cell? ⟨gb230,0,none⟩ = some (.int .i64 t216):=(blk_cell BK230.out 0).trans rfl
           have hcz56_1 : wr.cell? ⟨gb230,1,none⟩ = some (.int .i64 t217):=(blk_cell BK230.out 1).trans rfl
           have hcz56_2 : wr.cell? ⟨gb230,2,none⟩ = some (.slice Ao22 t218.length co22):=(blk_cell BK230.out 2).trans rfl
           have hcz56_3 : wr.cell? ⟨gb230,3,none⟩ = some (.int .i64 t221):=(blk_cell BK230.out 3).trans rfl
           have hcz56_4 : wr.cell? ⟨gb230,4,none⟩ = some (.int .u32 t222):=(blk_cell BK230.out 4).trans rfl
           have hfz56_0:=blk_frozen BK230.out 0
           have hfz56_1:=blk_frozen BK230.out 1
           have hfz56_2:=blk_frozen BK230.out 2
           have hfz56_3:=blk_frozen BK230.out 3
           have hfz56_4:=blk_frozen BK230.out 4
           try go_wp2
           have n0_:=Aside0.mk (Kd.S_drew HO_231002.out)
           have n1_:=Aside0.mk (Kd.S_drew HO_232002.out)
           have n2_:=Aside0.mk (blk_drew BK213.out)
           have n3_:=Aside0.mk (blk_drew BK214.out)
           have n4_:=Aside0.mk (blk_drew BK230.out)
           have n5_:=Aside0.mk (blk_drew BK231.out)
           have n6_:=Aside0.mk (below_drew1 HB.out)
           clear HO_231002
           clear HO_232002
           clear BK213
           clear BK214
           clear BK230
           clear BK231
           clear HB
           have HO_231002:=n0_
           have HO_232002:=n1_
           have BK213:=n2_
           have BK214:=n3_
           have BK230:=n4_
           have BK231:=n5_
           have HB:=n6_
           clear n0_ n1_ n2_ n3_ n4_ n5_ n6_
           have p232 : 0 ≤ (x10_2 : Int):=of_decide_eq_true (by first|(with_reducible assumption)|assumption)
           have q232 : x10_2 < (t218.length : Int):=of_decide_eq_true (by first|(with_reducible assumption)|assumption)
           obtain ⟨ad232,A232_0,c232_0,e232,hx232_0,hl232_0,hi232_0⟩:=at_L1 (Kd.S_reads' HO_231002.out).2.2 x10_2 p232 q232
           cases e232
           obtain ⟨ce232,hce232,hMe232,hcc232⟩:=Kd.S_get HO_231002.out [] x10_2 p232 (by first|exact q232|exact of_decide_eq_true (by first|(with_reducible assumption)|assumption)|(have e_:=(Kd.S_reads' HO_231002.out).1;omega))
           obtain ⟨ve232_0,rfl,ge232_0⟩:=id hMe232
           have hv232_0:=hcc232 0 _ rfl
           rw [Nat.add_zero,show ((Kd.slice 3 (Kd.int .i64))).sz = 1 from rfl,Nat.mul_one] at hv232_0
           replace hv232_0:=Option.some.inj (hv232_0.symm.trans hx232_0)
           rw [hv232_0] at ge232_0
           have HL232_0:=Aside0.mk (show Kd.R (Kd.int .i64) 3 _ _ _ _ (rd_L1 t218 x10_2) from ge232_0)
           clear hv232_0 ge232_0
           clear hcc232 hce232
           have HR232_0:=Aside0.mk hi232_0
           have HC232_0:=Aside0.mk hl232_0
           clear hi232_0 hl232_0
           replace p232:=eq_true p232
           replace q232:=eq_true q232
           have p233 : 0 ≤ (x10_2 : Int):=of_decide_eq_true (by first|(with_reducible assumption)|assumption)
           have q233 : x10_2 < (t225.length : Int):=of_decide_eq_true (by first|(with_reducible assumption)|assumption)
           obtain ⟨ad233,A233_0,c233_0,e233,hx233_0,hl233_0,hi233_0⟩:=at_L1 (Kd.S_reads' HO_232002.out).2.2 x10_2 p233 q233
           cases e233
           obtain ⟨ce233,hce233,hMe233,hcc233⟩:=Kd.S_get HO_232002.out [] x10_2 p233 (by first|exact q233|exact of_decide_eq_true (by first|(with_reducible assumption)|assumption)|(have e_:=(Kd.S_reads' HO_232002.out).1;omega))
           obtain ⟨ve233_0,rfl,ge233_0⟩:=id hMe233
           have hv233_0:=hcc233 0 _ rfl
           rw [Nat.add_zero,show ((Kd.slice 3 (Kd.int .i64))).sz = 1 from rfl,Nat.mul_one] at hv233_0
           replace hv233_0:=Option.some.inj (hv233_0.symm.trans hx233_0)
           rw [hv233_0] at ge233_0
           have HL233_0:=Aside0.mk (show Kd.R (Kd.int .i64) 3 _ _ _ _ (rd_L1 t225 x10_2) from ge233_0)
           clear hv233_0 ge233_0
           clear hcc233 hce233
           have HR233_0:=Aside0.mk hi233_0
           have HC233_0:=Aside0.mk hl233_0
           clear hi233_0 hl233_0
           replace p233:=eq_true p233
           replace q233:=eq_true q233
           refine start_ (n:=12) (S:=fun w'=>w'.cell? ⟨gb230,0,none⟩ = some (.int .i64 t216) ∧ w'.cell? ⟨gb230,1,none⟩ = some (.int .i64 t217) ∧ w'.cell? ⟨gb230,2,none⟩ = some (.slice (some ad232) t218.length co22) ∧ w'.cell? ⟨gb230,3,none⟩ = some (.int .i64 t221) ∧ w'.cell? ⟨gb230,4,none⟩ = some (.int .u32 t222) ∧ w'.cell? ⟨gb231,0,none⟩ = some (.int .i64 t223) ∧ w'.cell? ⟨gb231,1,none⟩ = some (.int .i64 t224) ∧ w'.cell? ⟨gb231,2,none⟩ = some (.slice (some ad233) t225.length co28) ∧ w'.cell? ⟨gb231,3,none⟩ = some (.int .i64 t228) ∧ w'.cell? ⟨gb231,4,none⟩ = some (.int .u32 t229) ∧ w'.cell? (ad232.add (x10_2).toNat) = some (.slice A232_0 (rd_L1 t218 x10_2).length c232_0) ∧ w'.cell? (ad233.add (x10_2).toNat) = some (.slice A233_0 (rd_L1 t225 x10_2).length c233_0)) (ds:=[]) #[false,false,false,false,false,false,false,false,false,false,false,false] (by kernel_rfl) rfl rfl ⟨(blk_cell BK230.out 0).trans rfl,(blk_cell BK230.out 1).trans rfl,(blk_cell BK230.out 2).trans rfl,(blk_cell BK230.out 3).trans rfl,(blk_cell BK230.out 4).trans rfl,(blk_cell BK231.out 0).trans rfl,(blk_cell BK231.out 1).trans rfl,(blk_cell BK231.out 2).trans rfl,(blk_cell BK231.out 3).trans rfl,(blk_cell BK231.out 4).trans rfl,hx232_0,hx233_0⟩ (fun hHeld=>?_);refine with_tabW least_Same.tab9 least_Same.bits9 (fun HT_ HW_=>?_)
           generalize wr.drew = w57 at HO_231002 HO_232002 BK213 BK214 BK230 BK231 HB HL232_0 HL233_0 HR232_0 HR233_0 hx232_0 hx233_0 hHeld ⊢
           refine pure_ (i:=0) (N:=some 42) (v:=?_) (a':=?_) #[true,false,false,false,false,false,false,false,false,false,false,false] rfl rfl (any_of HT_.out (by kernel_rfl)) (fun _ _ _ h=>h) (Or.inl ⟨by rfl,?_⟩) ?_ ?_
           rotate_left
           ·intro w'
            go_simp
            with_reducible rfl
           rotate_left
           ·simp only [Act.put,List.setIfInBounds_toArray,List.set_cons_zero,List.set_cons_succ,i64_w,i32_w]
            rfl
           refine pure_ (i:=2) (N:=some 44) (v:=?_) (a':=?_) #[true,false,true,false,false,false,false,false,false,false,false,false] rfl rfl (any_of HT_.out (by kernel_rfl)) (fun _ _ _ h=>h) (Or.inl ⟨by rfl,?_⟩) ?_ ?_
           rotate_left
           ·intro w'
            go_simp
            with_reducible rfl
           rotate_left
           ·simp only [Act.put,List.setIfInBounds_toArray,List.set_cons_zero,List.set_cons_succ,i64_w,i32_w]
            rfl
           refine pure_ (i:=5) (N:=some 47) (v:=?_) (a':=?_) #[true,false,true,false,false,true,false,false,false,false,false,false] rfl rfl (any_of HT_.out (by kernel_rfl)) (fun _ _ _ h=>h) (Or.inl ⟨by rfl,?_⟩) ?_ ?_
           rotate_left
           ·intro w'
            go_simp
            with_reducible rfl
           rotate_left
           ·simp only [Act.put,List.setIfInBounds_toArray,List.set_cons_zero,List.set_cons_succ,i64_w,i32_w]
            rfl
           refine pure_ (i:=7) (N:=some 49) (v:=?_) (a':=?_) #[true,false,true,false,false,true,false,true,false,false,false,false] rfl rfl (any_of HT_.out (by kernel_rfl)) (fun _ _ _ h=>h) (Or.inl ⟨by rfl,?_⟩) ?_ ?_
           rotate_left
           ·intro w'
            go_simp
            with_reducible rfl
           rotate_left
           ·simp only [Act.put,List.setIfInBounds_toArray,List.set_cons_zero,List.set_cons_succ,i64_w,i32_w]
            rfl
           refine take_ (i:=1) (N:=some 43) (v:=?_) (a':=?_) #[true,true,true,false,false,true,false,true,false,false,false,false] rfl rfl (take_ofW HT_.out HW_.out (by kernel_rfl)) (fun _ _ _ h=>h) (Or.inl ⟨by rfl,?_⟩) hHeld ?_ ?_
           rotate_left
           ·rintro w' ⟨s0,s1,s2,s3,s4,s5,s6,s7,s8,s9,s10,s11⟩
            go_simp
            with_reducible rfl
           rotate_left
           ·simp only [Act.put,List.setIfInBounds_toArray,List.set_cons_zero,List.set_cons_succ,i64_w,i32_w]
            rfl
           refine pure_ (i:=3) (N:=some 45) (v:=?_) (a':=?_) #[true,true,true,true,false,true,false,true,false,false,false,false] rfl rfl (any_of HT_.out (by kernel_rfl)) (fun _ _ _ h=>h) (Or.inl ⟨by rfl,?_⟩) ?_ ?_
           rotate_left
           ·intro w'
            go_simp
            with_reducible rfl
           rotate_left
           ·simp only [Act.put,List.setIfInBounds_toArray,List.set_cons_zero,List.set_cons_succ,i64_w,i32_w]
            rfl
           refine take_ (i:=4) (N:=some 46) (v:=?_) (a':=?_) #[true,true,true,true,true,true,false,true,false,false,false,false] rfl rfl (take_ofW HT_.out HW_.out (by kernel_rfl)) (fun _ _ _ h=>h) (Or.inl ⟨by rfl,?_⟩) hHeld ?_ ?_
           rotate_left
           ·rintro w' ⟨s0,s1,s2,s3,s4,s5,s6,s7,s8,s9,s10,s11⟩
            go_simp
            with_reducible rfl
           rotate_left
           ·simp only [Act.put,List.setIfInBounds_toArray,List.set_cons_zero,List.set_cons_succ,i64_w,i32_w]
            rfl
           refine take_ (i:=6) (N:=some 48) (v:=?_) (a':=?_) #[true,true,true,true,true,true,true,true,false,false,false,false] rfl rfl (take_ofW HT_.out HW_.out (by kernel_rfl)) (fun _ _ _ h=>h) (Or.inl ⟨by rfl,?_⟩) hHeld ?_ ?_
           rotate_left
           ·rintro w' ⟨s0,s1,s2,s3,s4,s5,s6,s7,s8,s9,s10,s11⟩
            go_simp
            with_reducible rfl
           rotate_left
           ·simp only [Act.put,List.setIfInBounds_toArray,List.set_cons_zero,List.set_cons_succ,i64_w,i32_w]
            rfl
           refine pure_ (i:=8) (N:=some 50) (v:=?_) (a':=?_) #[true,true,true,true,true,true,true,true,true,false,false,false] rfl rfl (any_of HT_.out (by kernel_rfl)) (fun _ _ _ h=>h) (Or.inl ⟨by rfl,?_⟩) ?_ ?_
           rotate_left
           ·intro w'
            go_simp
            with_reducible rfl
           rotate_left
           ·simp only [Act.put,List.setIfInBounds_toArray,List.set_cons_zero,List.set_cons_succ,i64_w,i32_w]
            rfl
           refine take_ (i:=9) (N:=some 51) (v:=?_) (a':=?_) #[true,true,true,true,true,true,true,true,true,true,false,false] rfl rfl (take_ofW HT_.out HW_.out (by kernel_rfl)) (fun _ _ _ h=>h) (Or.inl ⟨by rfl,?_⟩) hHeld ?_ ?_
           rotate_left
           ·rintro w' ⟨s0,s1,s2,s3,s4,s5,s6,s7,s8,s9,s10,s11⟩
            go_simp
            with_reducible rfl
           rotate_left
           ·simp only [Act.put,List.setIfInBounds_toArray,List.set_cons_zero,List.set_cons_succ,i64_w,i32_w]
            rfl
           refine one_ (i:=10) (N:=some 52) #[true,true,true,true,true,true,true,true,true,true,true,false] rfl rfl (one_of HT_.out (by kernel_rfl)) (by decide) (fun K hK=>?_)
           refine goes_ Try.func56 (by kernel_rfl) rfl #[.slice A232_0 (rd_L1 t218 x10_2).length c232_0,.slice A233_0 (rd_L1 t225 x10_2).length c233_0] (by rfl) rfl rfl (by (try simp only [List.map_toArray,List.map_cons,List.map_nil]);first|done|rfl|(simp only [List.length_drop,List.length_take];rfl)) ?_
           with_reducible refine (slices_Equal_int_int.calls k2 _ _ (rd_L1 t218 x10_2) _ _ (rd_L1 t225 x10_2) t234 _ ?side1 ?side2 ?side3 ?side4 A52.out).mono ?_
           (case side1=>repeat (first|exact (by repeat (first|(with_reducible exact HR232_0.out)|(with_reducible refine Kd.C_alloc ?_ _)|(with_reducible refine Kd.C_drewN ?_ _)|(with_reducible refine Kd.C_drew ?_)|exact HR232_0.out))|(with_reducible refine Kd.C_alloc ?_ _)|(with_reducible refine Kd.C_drewN ?_ _)|(with_reducible refine Kd.C_drew ?_)))
           (case side2=>exact HC232_0.out)
           (case side3=>repeat (first|exact (by repeat (first|(with_reducible exact HR233_0.out)|(with_reducible refine Kd.C_alloc ?_ _)|(with_reducible refine Kd.C_drewN ?_ _)|(with_reducible refine Kd.C_drew ?_)|exact HR233_0.out))|(with_reducible refine Kd.C_alloc ?_ _)|(with_reducible refine Kd.C_drewN ?_ _)|(with_reducible refine Kd.C_drew ?_)))
           (case side4=>exact HC233_0.out)
           rintro e w' ⟨rfl,⟨nd,rfl⟩⟩
           refine ⟨_,rfl,?_⟩
           refine hK.out _ _ ⟨(blk_cell BK230.out 0).trans rfl,(blk_cell BK230.out 1).trans rfl,(blk_cell BK230.out 2).trans rfl,(blk_cell BK230.out 3).trans rfl,(blk_cell BK230.out 4).trans rfl,(blk_cell BK231.out 0).trans rfl,(blk_cell BK231.out 1).trans rfl,(blk_cell BK231.out 2).trans rfl,(blk_cell BK231.out 3).trans rfl,(blk_cell BK231.out 4).trans rfl,hHeld.2.2.2.2.2.2.2.2.2.2.1,hHeld.2.2.2.2.2.2.2.2.2.2.2⟩ (fun hHeld=>?_)
           clear hK K
           refine norm_ (a':=?_) ?_ ?_
           rotate_left
           ·show Act.put _ (some 52) _ = _
            simp only [Act.put,List.setIfInBounds_toArray,List.set_cons_zero,List.set_cons_succ,i64_w,i32_w]
            rfl
           refine pure_ (i:=11) (N:=some 9) (v:=?_) (a':=?_) #[true,true,true,true,true,true,true,true,true,true,true,true] rfl rfl (any_of HT_.out (by kernel_rfl)) (fun _ _ _ h=>h) (Or.inl ⟨by rfl,?_⟩) ?_ ?_
           rotate_left
           ·intro w'
            go_simp
            with_reducible rfl
           rotate_left
           ·simp only [Act.put,List.setIfInBounds_toArray,List.set_cons_zero,List.set_cons_succ,i64_w,i32_w]
            rfl
           refine done_ (done_of HT_.out (by kernel_rfl)) ?_
           try go_wp2
           go_roundg k2
           case measure=>have:=HJ6.out;have:=HK2.out;omega
           case rel=>exact ⟨(t234),(wrap64 (x10_2 + 1)),(by first|rfl|(simp;done)|(simp [*];done)),(by first|rfl|(simp;done)|(simp [*];done)),H',⟨by have:=HJ6.out;have:=HK2.out;omega⟩,⟨by (with_reducible repeat (first|apply Kd.S_alloc|apply Kd.S_drewN|apply Kd.S_drew));exact HO_231002.out⟩,⟨by (with_reducible repeat (first|apply Kd.S_alloc|apply Kd.S_drewN|apply Kd.S_drew));exact HO_232002.out⟩,⟨by (with_reducible repeat (first|refine blk_drewN ?_ _|refine blk_drew ?_|refine blk_alloc ?_ _));exact BK213.out⟩,⟨by (with_reducible repeat (first|refine blk_drewN ?_ _|refine blk_drew ?_|refine blk_alloc ?_ _));exact BK214.out⟩,⟨by (with_reducible repeat (first|refine blk_drewN ?_ _|refine blk_drew ?_|refine blk_alloc ?_ _));exact BK230.out⟩,⟨by (with_reducible repeat (first|refine blk_drewN ?_ _|refine blk_drew ?_|refine blk_alloc ?_ _));exact BK231.out⟩,⟨by repeat (first|(with_reducible first|exact HB.out|apply below_alloc|apply pw_below_drewN|apply below_drew1|refine below_set ?_ GE213.out|refine below_set ?_ GE214.out|refine below_set ?_ GE230.out|refine below_set ?_ GE231.out)|exact HB.out)⟩⟩
          ·rw [if_neg c51] at H
           exact absurd H (by simp)
         ·rw [if_neg c50] at H
          exact absurd H (by simp)
        ·rw [if_neg c49] at H
         exact absurd H (by simp)
       ·replace c48:=Bool.eq_false_iff.mpr c48
        subst c48
        have H1 : (some (false,0)) = some (r1,r2):=by rw [if_neg (show ¬ (false = true) by decide)] at H;exact H
        clear H
        have H:=H1
        clear H1
        simp only [Option.some.injEq,Prod.mk.injEq] at H
        obtain ⟨rfl,rfl⟩:=H
        have hnb58:=NB230_213.out
        have hnc58:=NB213_230.out
        have hnb59:=NB230_214.out
        have hnc59:=NB214_230.out
        have hnb60:=NB230_231.out
        have hnc60:=NB231_230.out
        have hcz61_0 : wr.cell? ⟨gb230,0,none⟩ = some (.int .i64 t216):=(blk_cell BK230.out 0).trans rfl
        have hcz61_1 : wr.cell? ⟨gb230,1,none⟩ = some (.int .i64 t217):=(blk_cell BK230.out 1).trans rfl
        have hcz61_2 : wr.cell? ⟨gb230,2,none⟩ = some (.slice Ao22 t218.length co22):=(blk_cell BK230.out 2).trans rfl
        have hcz61_3 : wr.cell? ⟨gb230,3,none⟩ = some (.int .i64 t221):=(blk_cell BK230.out 3).trans rfl
        have hcz61_4 : wr.cell? ⟨gb230,4,none⟩ = some (.int .u32 t222):=(blk_cell BK230.out 4).trans rfl
        have hfz61_0:=blk_frozen BK230.out 0
        have hfz61_1:=blk_frozen BK230.out 1
        have hfz61_2:=blk_frozen BK230.out 2
        have hfz61_3:=blk_frozen BK230.out 3
        have hfz61_4:=blk_frozen BK230.out 4
        go_wp2
        go_ret2
        exact ⟨by first|rfl|(simp [errW_none,errW_some] <;> rfl)|(simp [*,errW_none,errW_some] <;> rfl),by repeat (first|(with_reducible first|exact HB.out|apply below_alloc|apply pw_below_drewN|apply below_drew1|refine below_set ?_ GE213.out|refine below_set ?_ GE214.out|refine below_set ?_ GE230.out|refine below_set ?_ GE231.out)|exact HB.out)⟩
      ·rw [if_neg c47] at H
       have c47b0 : decide (x10_2 < t216) = false:=decide_eq_false c47
       clear c47
       simp only [Option.some.injEq,Prod.mk.injEq] at H
       obtain ⟨rfl,rfl⟩:=H
       have hnb62:=NB230_213.out
       have hnc62:=NB213_230.out
       have hnb63:=NB230_214.out
       have hnc63:=NB214_230.out
       have hnb64:=NB230_231.out
       have hnc64:=NB231_230.out
       have hcz65_0 : wr.cell? ⟨gb230,0,none⟩ = some (.int .i64 t216):=(blk_cell BK230.out 0).trans rfl
       have hcz65_1 : wr.cell? ⟨gb230,1,none⟩ = some (.int .i64 t217):=(blk_cell BK230.out 1).trans rfl
       have hcz65_2 : wr.cell? ⟨gb230,2,none⟩ = some (.slice Ao22 t218.length co22):=(blk_cell BK230.out 2).trans rfl
       have hcz65_3 : wr.cell? ⟨gb230,3,none⟩ = some (.int .i64 t221):=(blk_cell BK230.out 3).trans rfl
       have hcz65_4 : wr.cell? ⟨gb230,4,none⟩ = some (.int .u32 t222):=(blk_cell BK230.out 4).trans rfl
       have hfz65_0:=blk_frozen BK230.out 0
       have hfz65_1:=blk_frozen BK230.out 1
       have hfz65_2:=blk_frozen BK230.out 2
       have hfz65_3:=blk_frozen BK230.out 3
       have hfz65_4:=blk_frozen BK230.out 4
       go_wp2
       go_ret2
       exact ⟨by first|rfl|(simp [errW_none,errW_some] <;> rfl)|(simp [*,errW_none,errW_some] <;> rfl),by repeat (first|(with_reducible first|exact HB.out|apply below_alloc|apply pw_below_drewN|apply below_drew1|refine below_set ?_ GE213.out|refine below_set ?_ GE214.out|refine below_set ?_ GE230.out|refine below_set ?_ GE231.out)|exact HB.out)⟩
 ·rw [if_neg c4] at H
  have c4b0 : (t215 == 0) = false:=beq_eq_false_iff_ne.mpr c4
  have c4b1 : (t215 != 0) = true:=bne_iff_ne.mpr c4
  simp only [Option.some.injEq,Prod.mk.injEq] at H
  obtain ⟨rfl,rfl⟩:=H
  go_enter Try.func37,Try.ntmps37
  go_wp2_with (first|((with_reducible refine gate_dst (N:=2) rfl ?_);refine box_event ?hg (N:=2) ?hd (cs:=#[.int .i64 a0_0,.int .i64 a0_1,.slice A0_2 l0_2.length c0_2,.int .i64 a0_3,.int .u32 a0_4]) (t:=37) ?hr ?_;(case hd=>rfl);(case hg=>rfl);(case hr=>first|(go_simp;done)|(go_simp;rfl));intro gb213 hg w66 hbox hb;have n0_:=Aside0.mk (below_step (by repeat (first|(with_reducible first|exact HB.out|apply below_alloc|apply pw_below_drewN|apply below_drew1)|exact HB.out)) hb);have n1_:=Aside0.mk (hbox);have n2_:=Aside0.mk ((by rw [hg];exact (below_size (by repeat (first|(with_reducible first|exact HB.out|apply below_alloc|apply pw_below_drewN|apply below_drew1)|exact HB.out))) : w.heap.size ≤ gb213));have n3_:=Aside0.mk ((by rw [hg];exact (below_size (by repeat (first|(with_reducible first|exact HB.out|apply below_alloc|apply pw_below_drewN|apply below_drew1)|exact HB.out))) : w.heap.size ≤ gb213));clear HB;have HB:=n0_;have BK213:=n1_;have GW213:=n2_;have GE213:=n3_;clear n0_ n1_ n2_ n3_;clear hb hbox hg)|((with_reducible refine gate_dst (N:=3) rfl ?_);refine box_event ?hg (N:=3) ?hd (cs:=#[.int .i64 a1_0,.int .i64 a1_1,.slice A1_2 l1_2.length c1_2,.int .i64 a1_3,.int .u32 a1_4]) (t:=37) ?hr ?_;(case hd=>rfl);(case hg=>rfl);(case hr=>first|(go_simp;done)|(go_simp;rfl));intro gb214 hg w67 hbox hb;have n0_:=Aside0.mk (blk_below (g:=gb213) (o:=.cells #[.int .i64 a0_0,.int .i64 a0_1,.slice A0_2 l0_2.length c0_2,.int .i64 a0_3,.int .u32 a0_4] 37 (0,0)) (by (with_reducible repeat (first|refine blk_drewN ?_ _|refine blk_drew ?_|refine blk_alloc ?_ _));exact BK213.out) hb);have n1_:=Aside0.mk (below_step (by repeat (first|(with_reducible first|exact HB.out|apply below_alloc|apply pw_below_drewN|apply below_drew1|refine below_set ?_ GE213.out)|exact HB.out)) hb);have n2_:=Aside0.mk (hbox);have n3_:=Aside0.mk ((by rw [hg];exact (below_size (by repeat (first|(with_reducible first|exact HB.out|apply below_alloc|apply pw_below_drewN|apply below_drew1|refine below_set ?_ GE213.out)|exact HB.out))) : w.heap.size ≤ gb214));have n4_:=Aside0.mk ((by rw [hg];exact (below_size (by repeat (first|(with_reducible first|exact HB.out|apply below_alloc|apply pw_below_drewN|apply below_drew1|refine below_set ?_ GE213.out)|exact HB.out))) : w.heap.size ≤ gb214));have n5_:=Aside0.mk ((by rw [hg];exact Nat.ne_of_lt (blk_lt (g:=gb213) (o:=.cells #[.int .i64 a0_0,.int .i64 a0_1,.slice A0_2 l0_2.length c0_2,.int .i64 a0_3,.int .u32 a0_4] 37 (0,0)) (by (with_reducible repeat (first|refine blk_drewN ?_ _|refine blk_drew ?_|refine blk_alloc ?_ _));exact BK213.out)) : gb213 ≠ gb214));have n6_:=Aside0.mk ((by rw [hg];exact Nat.ne_of_gt (blk_lt (g:=gb213) (o:=.cells #[.int .i64 a0_0,.int .i64 a0_1,.slice A0_2 l0_2.length c0_2,.int .i64 a0_3,.int .u32 a0_4] 37 (0,0)) (by (with_reducible repeat (first|refine blk_drewN ?_ _|refine blk_drew ?_|refine blk_alloc ?_ _));exact BK213.out)) : gb214 ≠ gb213));clear BK213;clear HB;have BK213:=n0_;have HB:=n1_;have BK214:=n2_;have GW214:=n3_;have GE214:=n4_;have NB213_214:=n5_;have NB214_213:=n6_;clear n0_ n1_ n2_ n3_ n4_ n5_ n6_;clear hb hbox hg;have hnb68:=NB213_214.out;have hnc68:=NB214_213.out;have hcz69_0 : w67.cell? ⟨gb213,0,none⟩ = some (.int .i64 a0_0):=(blk_cell BK213.out 0).trans rfl;have hcz69_1 : w67.cell? ⟨gb213,1,none⟩ = some (.int .i64 a0_1):=(blk_cell BK213.out 1).trans rfl;have hcz69_2 : w67.cell? ⟨gb213,2,none⟩ = some (.slice A0_2 l0_2.length c0_2):=(blk_cell BK213.out 2).trans rfl;have hcz69_3 : w67.cell? ⟨gb213,3,none⟩ = some (.int .i64 a0_3):=(blk_cell BK213.out 3).trans rfl;have hcz69_4 : w67.cell? ⟨gb213,4,none⟩ = some (.int .u32 a0_4):=(blk_cell BK213.out 4).trans rfl;have hfz69_0:=blk_frozen BK213.out 0;have hfz69_1:=blk_frozen BK213.out 1;have hfz69_2:=blk_frozen BK213.out 2;have hfz69_3:=blk_frozen BK213.out 3;have hfz69_4:=blk_frozen BK213.out 4;have hcz70_0 : w67.cell? ⟨gb214,0,none⟩ = some (.int .i64 a1_0):=(blk_cell BK214.out 0).trans rfl;have hcz70_1 : w67.cell? ⟨gb214,1,none⟩ = some (.int .i64 a1_1):=(blk_cell BK214.out 1).trans rfl;have hcz70_2 : w67.cell? ⟨gb214,2,none⟩ = some (.slice A1_2 l1_2.length c1_2):=(blk_cell BK214.out 2).trans rfl;have hcz70_3 : w67.cell? ⟨gb214,3,none⟩ = some (.int .i64 a1_3):=(blk_cell BK214.out 3).trans rfl;have hcz70_4 : w67.cell? ⟨gb214,4,none⟩ = some (.int .u32 a1_4):=(blk_cell BK214.out 4).trans rfl;have hfz70_0:=blk_frozen BK214.out 0;have hfz70_1:=blk_frozen BK214.out 1;have hfz70_2:=blk_frozen BK214.out 2;have hfz70_3:=blk_frozen BK214.out 3;have hfz70_4:=blk_frozen BK214.out 4)|((with_reducible refine gate_callee (f:=55) rfl ?_);refine goesL_ (some 13) rfl rfl Try.func55 (by kernel_rfl) rfl #[.agg #[.int .i64 a0_0,.int .i64 a0_1,.slice A0_2 l0_2.length c0_2,.int .i64 a0_3,.int .u32 a0_4],.agg #[.int .i64 a1_0,.int .i64 a1_1,.slice A1_2 l1_2.length c1_2,.int .i64 a1_3,.int .u32 a1_4]] rfl (by (try simp only [List.map_toArray,List.map_cons,List.map_nil]);first|done|rfl|(simp only [List.length_drop,List.length_take];rfl)) ?_;(with_reducible refine (least_wrong.calls k a0_0 a0_1 _ _ l0_2 a0_3 a0_4 a1_0 a1_1 _ _ l1_2 a1_3 a1_4 t215 _ ?side1 ?side2 ?side3 ?side4 A3.out).mono ?_);(case side1=>repeat (first|exact (Kd.C_below HR0_2.out HB.out)|(with_reducible refine Kd.C_alloc ?_ _)|(with_reducible refine Kd.C_drewN ?_ _)|(with_reducible refine Kd.C_drew ?_)));(case side2=>exact HC0_2.out);(case side3=>repeat (first|exact (Kd.C_below HR1_2.out HB.out)|(with_reducible refine Kd.C_alloc ?_ _)|(with_reducible refine Kd.C_drewN ?_ _)|(with_reducible refine Kd.C_drew ?_)));(case side4=>exact HC1_2.out);rintro e w71 ⟨rfl,hb⟩;refine ⟨_,rfl,?_⟩;have n0_:=Aside0.mk (blk_below (g:=gb213) (o:=.cells #[.int .i64 a0_0,.int .i64 a0_1,.slice A0_2 l0_2.length c0_2,.int .i64 a0_3,.int .u32 a0_4] 37 (0,0)) (by (with_reducible repeat (first|refine blk_drewN ?_ _|refine blk_drew ?_|refine blk_alloc ?_ _));exact BK213.out) hb);have n1_:=Aside0.mk (blk_below (g:=gb214) (o:=.cells #[.int .i64 a1_0,.int .i64 a1_1,.slice A1_2 l1_2.length c1_2,.int .i64 a1_3,.int .u32 a1_4] 37 (0,0)) (by (with_reducible repeat (first|refine blk_drewN ?_ _|refine blk_drew ?_|refine blk_alloc ?_ _));exact BK214.out) hb);have n2_:=Aside0.mk (below_step (by repeat (first|(with_reducible first|exact HB.out|apply below_alloc|apply pw_below_drewN|apply below_drew1|refine below_set ?_ GE213.out|refine below_set ?_ GE214.out)|exact HB.out)) hb);clear BK213;clear BK214;clear HB;have BK213:=n0_;have BK214:=n1_;have HB:=n2_;clear n0_ n1_ n2_;(try clear hb);(try clear hb2);(try clear hk);(try clear hi)))
  go_ret2
  exact ⟨by first|rfl|(simp [errW_none,errW_some] <;> rfl)|(simp [*,errW_none,errW_some] <;> rfl),by repeat (first|(with_reducible first|exact HB.out|apply below_alloc|apply pw_below_drewN|apply below_drew1|refine below_set ?_ GE213.out|refine below_set ?_ GE214.out)|exact HB.out)⟩
end Go.Proofs.Ytiiankjmeodjdaa.GE
