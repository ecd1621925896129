-- Written by ext.py, a program of this session.
import Derived.Test.YthgiiikjcfhgjaaGV0
import Derived.Test.YthgiiikjcfhgjaaGV3
import Derived.Test.YthgiiikjcfhgjaaGV7
import Derived.Test.YthgiiikjcfhgjaaGV10
namespace Go.Proofs.Ythgiiikjcfhgjaa.GV
open Go.RowKit Go.Proofs.YthgiiikjcfhgjaaW.PrintWords Go.Proofs.YthgiiikjcfhgjaaW.PrintLast Go.Proofs.YthgiiikjcfhgjaaW.PrintMore
attribute [local go_sem] max2_int min2_int max_two min_two max_three min_three max_four min_four cellIs_set   -- for this text's walks alone
set_option linter.unusedVariables false
set_option linter.unusedSimpArgs false
/-! ### least_Same: function 34 -/
mutual
def least_Same.j0 : Nat → Bool → Int → Int → List (List Int) → Int → Int → Int → Int → List (List Int) → Int → Int → Option (Bool × Int)
 | 0,_,_,_,_,_,_,_,_,_,_,_=>none
 | k + 1,x9,x207000,x207001,x207002,x207003,x207004,x208000,x208001,x208002,x208003,x208004=>least_Same.l0 k x9 0 x207000 x207001 x207002 x207003 x207004 x208000 x208001 x208002 x208003 x208004
def least_Same.l0 : Nat → Bool → Int → Int → Int → List (List Int) → Int → Int → Int → Int → List (List Int) → Int → Int → Option (Bool × Int)
 | 0,_,_,_,_,_,_,_,_,_,_,_,_=>none
 | k + 1,x9,x10,x207000,x207001,x207002,x207003,x207004,x208000,x208001,x208002,x208003,x208004=>if x10 < x207000 then (if x9 = true then (if 0 ≤ x10 then (if x10 < (x207002.length : Int) then (if x10 < (x208002.length : Int) then ((slices_Equal_int_int.f k (rd_L1 x207002 x10) (rd_L1 x208002 x10)).bind fun t210=>(least_Same.l0 k t210 (wrap64 (x10 + 1)) x207000 x207001 x207002 x207003 x207004 x208000 x208001 x208002 x208003 x208004)) else (none)) else (none)) else (none)) else (some (x9,0))) else (some (x9,0))
end
def least_Same.f (k : Nat) (a0_0 : Int) (a0_1 : Int) (l0_2 : List (List Int)) (a0_3 : Int) (a0_4 : Int) (a1_0 : Int) (a1_1 : Int) (l1_2 : List (List Int)) (a1_3 : Int) (a1_4 : Int) : Option (Bool × Int):=(least_wrong.f k a0_0 a0_1 l0_2 a0_3 a0_4 a1_0 a1_1 l1_2 a1_3 a1_4).bind fun t191=>(if t191 = 0 then ((least_Small.f k a0_0 a0_1 l0_2 a0_3 a0_4).bind fun bt192=>((least_Small.f k a1_0 a1_1 l1_2 a1_3 a1_4).bind fun bt199=>(if bt192.1 = bt199.1 then (least_Same.j0 k (bt192.2.2.2.2 == bt199.2.2.2.2) bt192.1 bt192.2.1 bt192.2.2.1 bt192.2.2.2.1 bt192.2.2.2.2 bt199.1 bt199.2.1 bt199.2.2.1 bt199.2.2.2.1 bt199.2.2.2.2) else (least_Same.j0 k false bt192.1 bt192.2.1 bt192.2.2.1 bt192.2.2.2.1 bt192.2.2.2.2 bt199.1 bt199.2.1 bt199.2.2.1 bt199.2.2.2.1 bt199.2.2.2.2)))) else (some (false,t191)))
theorem least_Same.mono_l : ∀ k,(∀ y0 y1 y2 y3 y4 y5 y6 y7 y8 y9 y10,LeO (least_Same.j0 k y0 y1 y2 y3 y4 y5 y6 y7 y8 y9 y10) (least_Same.j0 (k + 1) y0 y1 y2 y3 y4 y5 y6 y7 y8 y9 y10)) ∧ (∀ y0 y1 y2 y3 y4 y5 y6 y7 y8 y9 y10 y11,LeO (least_Same.l0 k y0 y1 y2 y3 y4 y5 y6 y7 y8 y9 y10 y11) (least_Same.l0 (k + 1) y0 y1 y2 y3 y4 y5 y6 y7 y8 y9 y10 y11))
 | 0=>⟨fun _ _ _ _ _ _ _ _ _ _ _ r h=>by simp [least_Same.j0] at h,fun _ _ _ _ _ _ _ _ _ _ _ _ r h=>by simp [least_Same.l0] at h⟩
 | k + 1=>by
  obtain ⟨ih0,ih1⟩:=least_Same.mono_l k
  refine ⟨?_,?_⟩
  ·intro y0 y1 y2 y3 y4 y5 y6 y7 y8 y9 y10
   unfold least_Same.j0
   repeat' first
   | (with_reducible exact ih0 _ _ _ _ _ _ _ _ _ _ _)
   | (with_reducible exact ih1 _ _ _ _ _ _ _ _ _ _ _ _)
   | (with_reducible exact least_Small.mono _ _ _ _ _ _)
   | (with_reducible exact least_wrong.mono _ _ _ _ _ _ _ _ _ _ _)
   | (with_reducible exact slices_Equal_int_int.mono _ _ _)
   | (with_reducible exact LeO.refl _)
   | (with_reducible exact LeO.none _)
   | (with_reducible refine LeO.ite ?_ ?_)
   | (with_reducible refine LeO.bind ?_ (fun _=>?_))
   | exact ih0 _ _ _ _ _ _ _ _ _ _ _
   | exact ih1 _ _ _ _ _ _ _ _ _ _ _ _
   | exact least_Small.mono _ _ _ _ _ _
   | exact least_wrong.mono _ _ _ _ _ _ _ _ _ _ _
   | exact slices_Equal_int_int.mono _ _ _
   | exact LeO.none _
   | refine LeO.ite ?_ ?_
   | refine LeO.bind ?_ (fun _=>?_)
  ·intro y0 y1 y2 y3 y4 y5 y6 y7 y8 y9 y10 y11
   unfold least_Same.l0
   repeat' first
   | (with_reducible exact ih0 _ _ _ _ _ _ _ _ _ _ _)
   | (with_reducible exact ih1 _ _ _ _ _ _ _ _ _ _ _ _)
   | (with_reducible exact least_Small.mono _ _ _ _ _ _)
   | (with_reducible exact least_wrong.mono _ _ _ _ _ _ _ _ _ _ _)
   | (with_reducible exact slices_Equal_int_int.mono _ _ _)
   | (with_reducible exact LeO.refl _)
   | (with_reducible exact LeO.none _)
   | (with_reducible refine LeO.ite ?_ ?_)
   | (with_reducible refine LeO.bind ?_ (fun _=>?_))
   | exact ih0 _ _ _ _ _ _ _ _ _ _ _
   | exact ih1 _ _ _ _ _ _ _ _ _ _ _ _
   | exact least_Small.mono _ _ _ _ _ _
   | exact least_wrong.mono _ _ _ _ _ _ _ _ _ _ _
   | exact slices_Equal_int_int.mono _ _ _
   | exact LeO.none _
   | refine LeO.ite ?_ ?_
   | refine LeO.bind ?_ (fun _=>?_)
theorem least_Same.mono : ∀ a0 a1 a2 a3 a4 a5 a6 a7 a8 a9 k,LeO (least_Same.f k a0 a1 a2 a3 a4 a5 a6 a7 a8 a9) (least_Same.f (k + 1) a0 a1 a2 a3 a4 a5 a6 a7 a8 a9):=by
 intro a0 a1 a2 a3 a4 a5 a6 a7 a8 a9 k
 obtain ⟨ih0,ih1⟩:=least_Same.mono_l k
 unfold least_Same.f
 repeat' first
   | (with_reducible exact ih0 _ _ _ _ _ _ _ _ _ _ _)
   | (with_reducible exact ih1 _ _ _ _ _ _ _ _ _ _ _ _)
   | (with_reducible exact least_Small.mono _ _ _ _ _ _)
   | (with_reducible exact least_wrong.mono _ _ _ _ _ _ _ _ _ _ _)
   | (with_reducible exact slices_Equal_int_int.mono _ _ _)
   | (with_reducible exact LeO.refl _)
   | (with_reducible exact LeO.none _)
   | (with_reducible refine LeO.ite ?_ ?_)
   | (with_reducible refine LeO.bind ?_ (fun _=>?_))
   | exact ih0 _ _ _ _ _ _ _ _ _ _ _
   | exact ih1 _ _ _ _ _ _ _ _ _ _ _ _
   | exact least_Small.mono _ _ _ _ _ _
   | exact least_wrong.mono _ _ _ _ _ _ _ _ _ _ _
   | exact slices_Equal_int_int.mono _ _ _
   | exact LeO.none _
   | refine LeO.ite ?_ ?_
   | refine LeO.bind ?_ (fun _=>?_)
def least_Same.T4 : Bool × List (List Nat × List Nat):=(true,[([],[]),([0],[0]),([],[]),([2,1],[2]),([],[]),([],[]),([4,1,3,0,1,4,5],[1,4]),([5,3,6,0,1,2,3,4,5,6],[3,5])])
def least_Same.B4 : List Nat:=[0,1,0,7,0,0,63,127]
theorem least_Same.tab4 : rtab .any (opsOf Try.f34 4) = least_Same.T4:=by kernel_rfl
theorem least_Same.bits4 : waitsOk least_Same.T4.2 least_Same.B4 = true:=by kernel_rfl
def least_Same.T9 : Bool × List (List Nat × List Nat):=(true,[([],[]),([0],[0]),([],[]),([1,2],[1,2]),([3],[3]),([],[]),([5],[5]),([],[]),([6,7],[6,7]),([8],[8]),([4,9],[4,9]),([10,10,0,1,2,3,4,5,6,7,8,9,10],[10])])
def least_Same.B9 : List Nat:=[0,1,0,7,15,0,32,0,224,480,1023,2047]
theorem least_Same.tab9 : rtab .any (opsOf Try.f34 9) = least_Same.T9:=by kernel_rfl
theorem least_Same.bits9 : waitsOk least_Same.T9.2 least_Same.B9 = true:=by kernel_rfl
theorem qDs11_ {p q : Prop} (H : q) (h : q → p:=by intro h_;(with_reducible repeat (first|refine blk_drewN ?_ _|refine blk_drew ?_|refine blk_alloc ?_ _));exact h_) : p:=h H
theorem qBs11_1 {p : Prop} (h : p:=by repeat (first|(with_reducible first|exact HB.out|apply below_alloc|apply pw_below_drewN|apply below_drew1)|exact HB.out)) : p:=h
theorem qBs11_2 {p : Prop} (h : p:=by repeat (first|(with_reducible first|exact HB.out|apply below_alloc|apply pw_below_drewN|apply below_drew1|refine below_set ?_ Bf.out)|exact HB.out)) : p:=h
theorem qBs11_3 {p : Prop} (h : p:=by repeat (first|(with_reducible first|exact HB.out|apply below_alloc|apply pw_below_drewN|apply below_drew1|refine below_set ?_ Bf.out|refine below_set ?_ Bg.out)|exact HB.out)) : p:=h
theorem qBs11_4 {p : Prop} (h : p:=by repeat (first|(with_reducible first|exact HB.out|apply below_alloc|apply pw_below_drewN|apply below_drew1|refine below_set ?_ Bf.out|refine below_set ?_ Bg.out|refine below_set ?_ Au.out)|exact HB.out)) : p:=h
theorem qBs11_5 {p : Prop} (h : p:=by repeat (first|(with_reducible first|exact HB.out|apply below_alloc|apply pw_below_drewN|apply below_drew1|refine below_set ?_ Bf.out|refine below_set ?_ Bg.out|refine below_set ?_ Av.out)|exact HB.out)) : p:=h
theorem qBs11_6 {p : Prop} (h : p:=by repeat (first|(with_reducible first|exact HB.out|apply below_alloc|apply pw_below_drewN|apply below_drew1|refine below_set ?_ Bf.out|refine below_set ?_ Bg.out|refine below_set ?_ Av.out|refine below_set ?_ Au.out)|exact HB.out)) : p:=h
theorem qBs11_7 {p : Prop} (h : p:=by repeat (first|(with_reducible first|exact HB.out|apply below_alloc|apply pw_below_drewN|apply below_drew1|refine below_set ?_ Bf.out|refine below_set ?_ Bg.out|refine below_set ?_ Au.out|refine below_set ?_ Av.out)|exact HB.out)) : p:=h
theorem qAs11_8 {p : Prop} (h : p:=by (try simp only [List.map_toArray,List.map_cons,List.map_nil]);first|done|rfl|(simp only [List.length_drop,List.length_take];rfl)) : p:=h
theorem qAs11_9 {p : Prop} (h : p:=by first|(with_reducible assumption)|assumption) : p:=h
set_option maxHeartbeats 8000000 in
set_option maxRecDepth 100000 in
theorem least_Same.calls (k : Nat) (a0_0 : Int) (a0_1 : Int) (A0_2 : Option Addr) (c0_2 : Nat) (l0_2 : List (List Int)) (a0_3 : Int) (a0_4 : Int) (a1_0 : Int) (a1_1 : Int) (A1_2 : Option Addr) (c1_2 : Nat) (l1_2 : List (List Int)) (a1_3 : Int) (a1_4 : Int) (r1 : Bool) (r2 : Int) (w : World) (hr0_2 : Kd.C (Kd.slice 3 (Kd.int .i64)) w A0_2 l0_2.length l0_2) (hc0_2 : l0_2.length ≤ c0_2) (hr1_2 : Kd.C (Kd.slice 3 (Kd.int .i64)) w A1_2 l1_2.length l1_2) (hc1_2 : l1_2.length ≤ c1_2) (h : least_Same.f k a0_0 a0_1 l0_2 a0_3 a0_4 a1_0 a1_1 l1_2 a1_3 a1_4 = some (r1,r2)) :
  Calls Try.prog 34 #[.agg #[.int .i64 a0_0,.int .i64 a0_1,.slice A0_2 l0_2.length c0_2,.int .i64 a0_3,.int .u32 a0_4],.agg #[.int .i64 a1_0,.int .i64 a1_1,.slice A1_2 l1_2.length c1_2,.int .i64 a1_3,.int .u32 a1_4]] w fun e w'=>e = .returned (.tuple #[.bool r1,.int .i64 r2]) ∧ Below w.heap.size w w':=by
 have hu63:=Try.underlying63
 have HR0_2:=Aside0.mk hr0_2
 have HC0_2:=Aside0.mk hc0_2
 clear hr0_2 hc0_2
 have HR1_2:=Aside0.mk hr1_2
 have HC1_2:=Aside0.mk hc1_2
 clear hr1_2 hc1_2
 have HB:=Aside0.mk (Below.refl w.heap.size w)
 have H : ((least_wrong.f k a0_0 a0_1 l0_2 a0_3 a0_4 a1_0 a1_1 l1_2 a1_3 a1_4).bind fun t191=>(if t191 = 0 then ((least_Small.f k a0_0 a0_1 l0_2 a0_3 a0_4).bind fun bt192=>((least_Small.f k a1_0 a1_1 l1_2 a1_3 a1_4).bind fun bt199=>(if bt192.1 = bt199.1 then (least_Same.j0 k (bt192.2.2.2.2 == bt199.2.2.2.2) bt192.1 bt192.2.1 bt192.2.2.1 bt192.2.2.2.1 bt192.2.2.2.2 bt199.1 bt199.2.1 bt199.2.2.1 bt199.2.2.2.1 bt199.2.2.2.2) else (least_Same.j0 k false bt192.1 bt192.2.1 bt192.2.2.1 bt192.2.2.2.1 bt192.2.2.2.2 bt199.1 bt199.2.1 bt199.2.2.1 bt199.2.2.2.1 bt199.2.2.2.2)))) else (some (false,t191)))) = some (r1,r2):=h
 clear h
 replace H:=Option.bind_eq_some_iff.mp H
 obtain ⟨t191,A30,H⟩:=H
 replace H : (if t191 = 0 then ((least_Small.f k a0_0 a0_1 l0_2 a0_3 a0_4).bind fun bt192=>((least_Small.f k a1_0 a1_1 l1_2 a1_3 a1_4).bind fun bt199=>(if bt192.1 = bt199.1 then (least_Same.j0 k (bt192.2.2.2.2 == bt199.2.2.2.2) bt192.1 bt192.2.1 bt192.2.2.1 bt192.2.2.2.1 bt192.2.2.2.2 bt199.1 bt199.2.1 bt199.2.2.1 bt199.2.2.2.1 bt199.2.2.2.2) else (least_Same.j0 k false bt192.1 bt192.2.1 bt192.2.2.1 bt192.2.2.2.1 bt192.2.2.2.2 bt199.1 bt199.2.1 bt199.2.2.1 bt199.2.2.2.1 bt199.2.2.2.2)))) else (some (false,t191))) = some (r1,r2):=H
 have A3:=Aside0.mk A30
 clear A30
 by_cases c4 : t191 = 0
 ·rw [if_pos c4] at H
  have c4b0 : (t191 == 0) = true:=beq_iff_eq.mpr c4
  have c4b1 : (t191 != 0) = false:=bne_eq_false_iff_eq.mpr c4
  clear c4
  replace H:=Option.bind_eq_some_iff.mp H
  obtain ⟨⟨t192,t193,t194,t197,t198⟩,A50,H⟩:=H
  replace H : ((least_Small.f k a1_0 a1_1 l1_2 a1_3 a1_4).bind fun bt199=>(if t192 = bt199.1 then (least_Same.j0 k (t198 == bt199.2.2.2.2) t192 t193 t194 t197 t198 bt199.1 bt199.2.1 bt199.2.2.1 bt199.2.2.2.1 bt199.2.2.2.2) else (least_Same.j0 k false t192 t193 t194 t197 t198 bt199.1 bt199.2.1 bt199.2.2.1 bt199.2.2.2.1 bt199.2.2.2.2))) = some (r1,r2):=H
  have A5:=Aside0.mk A50
  clear A50
  replace H:=Option.bind_eq_some_iff.mp H
  obtain ⟨⟨A2,A4,Ax,A7,A8⟩,A60,H⟩:=H
  replace H : (if t192 = A2 then (least_Same.j0 k (t198 == A8) t192 t193 t194 t197 t198 A2 A4 Ax A7 A8) else (least_Same.j0 k false t192 t193 t194 t197 t198 A2 A4 Ax A7 A8)) = some (r1,r2):=H
  have A6:=Aside0.mk A60
  clear A60
  have HC7:=Aside0.mk H
  clear H
  go_enter Try.func34,Try.ntmps34
  try go_wp2_with (first|((with_reducible refine gate_dst (N:=2) rfl ?_);refine box_event ?hg (N:=2) ?hd (cs:=#[.int .i64 a0_0,.int .i64 a0_1,.slice A0_2 l0_2.length c0_2,.int .i64 a0_3,.int .u32 a0_4]) (t:=63) ?hr ?_;(case hd=>rfl);(case hg=>rfl);(case hr=>first|(go_simp;done)|(go_simp;rfl));intro Aa hg w8 hbox hb;have n0_:=Aside0.mk (below_step qBs11_1 hb);have n1_:=Aside0.mk (hbox);have n2_:=Aside0.mk ((by rw [hg];exact (below_size qBs11_1) : w.heap.size ≤ Aa));have n3_:=Aside0.mk ((by rw [hg];exact (below_size qBs11_1) : w.heap.size ≤ Aa));clear HB;have HB:=n0_;have Ab:=n1_;have GW189:=n2_;have Bf:=n3_;clear n0_ n1_ n2_ n3_;clear hb hbox hg)|((with_reducible refine gate_dst (N:=3) rfl ?_);refine box_event ?hg (N:=3) ?hd (cs:=#[.int .i64 a1_0,.int .i64 a1_1,.slice A1_2 l1_2.length c1_2,.int .i64 a1_3,.int .u32 a1_4]) (t:=63) ?hr ?_;(case hd=>rfl);(case hg=>rfl);(case hr=>first|(go_simp;done)|(go_simp;rfl));intro Ac hg w9 hbox hb;have n0_:=Aside0.mk (blk_below (g:=Aa) (o:=.cells #[.int .i64 a0_0,.int .i64 a0_1,.slice A0_2 l0_2.length c0_2,.int .i64 a0_3,.int .u32 a0_4] 63 (0,0)) (qDs11_ Ab.out) hb);have n1_:=Aside0.mk (below_step qBs11_2 hb);have n2_:=Aside0.mk (hbox);have n3_:=Aside0.mk ((by rw [hg];exact (below_size qBs11_2) : w.heap.size ≤ Ac));have n4_:=Aside0.mk ((by rw [hg];exact (below_size qBs11_2) : w.heap.size ≤ Ac));have n5_:=Aside0.mk ((by rw [hg];exact Nat.ne_of_lt (blk_lt (g:=Aa) (o:=.cells #[.int .i64 a0_0,.int .i64 a0_1,.slice A0_2 l0_2.length c0_2,.int .i64 a0_3,.int .u32 a0_4] 63 (0,0)) (qDs11_ Ab.out)) : Aa ≠ Ac));have n6_:=Aside0.mk ((by rw [hg];exact Nat.ne_of_gt (blk_lt (g:=Aa) (o:=.cells #[.int .i64 a0_0,.int .i64 a0_1,.slice A0_2 l0_2.length c0_2,.int .i64 a0_3,.int .u32 a0_4] 63 (0,0)) (qDs11_ Ab.out)) : Ac ≠ Aa));clear Ab;clear HB;have Ab:=n0_;have HB:=n1_;have Ad:=n2_;have GW190:=n3_;have Bg:=n4_;have Bd:=n5_;have Be:=n6_;clear n0_ n1_ n2_ n3_ n4_ n5_ n6_;clear hb hbox hg;have hnb10:=Bd.out;have hnc10:=Be.out;have hcz11_0 : w9.cell? ⟨Aa,0,none⟩ = some (.int .i64 a0_0):=(blk_cell Ab.out 0).trans rfl;have hcz11_1 : w9.cell? ⟨Aa,1,none⟩ = some (.int .i64 a0_1):=(blk_cell Ab.out 1).trans rfl;have hcz11_2 : w9.cell? ⟨Aa,2,none⟩ = some (.slice A0_2 l0_2.length c0_2):=(blk_cell Ab.out 2).trans rfl;have hcz11_3 : w9.cell? ⟨Aa,3,none⟩ = some (.int .i64 a0_3):=(blk_cell Ab.out 3).trans rfl;have hcz11_4 : w9.cell? ⟨Aa,4,none⟩ = some (.int .u32 a0_4):=(blk_cell Ab.out 4).trans rfl;have hfz11_0:=blk_frozen Ab.out 0;have hfz11_1:=blk_frozen Ab.out 1;have hfz11_2:=blk_frozen Ab.out 2;have hfz11_3:=blk_frozen Ab.out 3;have hfz11_4:=blk_frozen Ab.out 4;have hcz12_0 : w9.cell? ⟨Ac,0,none⟩ = some (.int .i64 a1_0):=(blk_cell Ad.out 0).trans rfl;have hcz12_1 : w9.cell? ⟨Ac,1,none⟩ = some (.int .i64 a1_1):=(blk_cell Ad.out 1).trans rfl;have hcz12_2 : w9.cell? ⟨Ac,2,none⟩ = some (.slice A1_2 l1_2.length c1_2):=(blk_cell Ad.out 2).trans rfl;have hcz12_3 : w9.cell? ⟨Ac,3,none⟩ = some (.int .i64 a1_3):=(blk_cell Ad.out 3).trans rfl;have hcz12_4 : w9.cell? ⟨Ac,4,none⟩ = some (.int .u32 a1_4):=(blk_cell Ad.out 4).trans rfl;have hfz12_0:=blk_frozen Ad.out 0;have hfz12_1:=blk_frozen Ad.out 1;have hfz12_2:=blk_frozen Ad.out 2;have hfz12_3:=blk_frozen Ad.out 3;have hfz12_4:=blk_frozen Ad.out 4)|((with_reducible refine gate_callee (f:=80) rfl ?_);refine goesL_ (some 13) rfl rfl Try.func80 (by kernel_rfl) rfl #[.agg #[.int .i64 a0_0,.int .i64 a0_1,.slice A0_2 l0_2.length c0_2,.int .i64 a0_3,.int .u32 a0_4],.agg #[.int .i64 a1_0,.int .i64 a1_1,.slice A1_2 l1_2.length c1_2,.int .i64 a1_3,.int .u32 a1_4]] rfl qAs11_8 ?_;(with_reducible refine (least_wrong.calls k a0_0 a0_1 _ _ l0_2 a0_3 a0_4 a1_0 a1_1 _ _ l1_2 a1_3 a1_4 t191 _ ?side1 ?side2 ?side3 ?side4 A3.out).mono ?_);(case side1=>repeat (first|exact (Kd.C_below HR0_2.out HB.out)|(with_reducible refine Kd.C_alloc ?_ _)|(with_reducible refine Kd.C_drewN ?_ _)|(with_reducible refine Kd.C_drew ?_)));(case side2=>exact HC0_2.out);(case side3=>repeat (first|exact (Kd.C_below HR1_2.out HB.out)|(with_reducible refine Kd.C_alloc ?_ _)|(with_reducible refine Kd.C_drewN ?_ _)|(with_reducible refine Kd.C_drew ?_)));(case side4=>exact HC1_2.out);rintro e w13 ⟨rfl,hb⟩;refine ⟨_,rfl,?_⟩;have n0_:=Aside0.mk (blk_below (g:=Aa) (o:=.cells #[.int .i64 a0_0,.int .i64 a0_1,.slice A0_2 l0_2.length c0_2,.int .i64 a0_3,.int .u32 a0_4] 63 (0,0)) (qDs11_ Ab.out) hb);have n1_:=Aside0.mk (blk_below (g:=Ac) (o:=.cells #[.int .i64 a1_0,.int .i64 a1_1,.slice A1_2 l1_2.length c1_2,.int .i64 a1_3,.int .u32 a1_4] 63 (0,0)) (qDs11_ Ad.out) hb);have n2_:=Aside0.mk (below_step qBs11_3 hb);clear Ab;clear Ad;clear HB;have Ab:=n0_;have Ad:=n1_;have HB:=n2_;clear n0_ n1_ n2_;(try clear hb);(try clear hb2);(try clear hk);(try clear hi)))
  have n0_:=Aside0.mk (blk_drew Ab.out)
  have n1_:=Aside0.mk (blk_drew Ad.out)
  have n2_:=Aside0.mk (below_drew1 HB.out)
  clear Ab
  clear Ad
  clear HB
  have Ab:=n0_
  have Ad:=n1_
  have HB:=n2_
  clear n0_ n1_ n2_
  refine start_ (n:=8) (S:=fun w'=>w'.cell? ⟨Aa,0,none⟩ = some (.int .i64 a0_0) ∧ w'.cell? ⟨Aa,1,none⟩ = some (.int .i64 a0_1) ∧ w'.cell? ⟨Aa,2,none⟩ = some (.slice A0_2 l0_2.length c0_2) ∧ w'.cell? ⟨Aa,3,none⟩ = some (.int .i64 a0_3) ∧ w'.cell? ⟨Aa,4,none⟩ = some (.int .u32 a0_4) ∧ w'.cell? ⟨Ac,0,none⟩ = some (.int .i64 a1_0) ∧ w'.cell? ⟨Ac,1,none⟩ = some (.int .i64 a1_1) ∧ w'.cell? ⟨Ac,2,none⟩ = some (.slice A1_2 l1_2.length c1_2) ∧ w'.cell? ⟨Ac,3,none⟩ = some (.int .i64 a1_3) ∧ w'.cell? ⟨Ac,4,none⟩ = some (.int .u32 a1_4)) (ds:=[]) #[false,false,false,false,false,false,false,false] (by kernel_rfl) rfl rfl ⟨(blk_cell Ab.out 0).trans rfl,(blk_cell Ab.out 1).trans rfl,(blk_cell Ab.out 2).trans rfl,(blk_cell Ab.out 3).trans rfl,(blk_cell Ab.out 4).trans rfl,(blk_cell Ad.out 0).trans rfl,(blk_cell Ad.out 1).trans rfl,(blk_cell Ad.out 2).trans rfl,(blk_cell Ad.out 3).trans rfl,(blk_cell Ad.out 4).trans rfl⟩ (fun hHeld=>?_);refine with_tabW least_Same.tab4 least_Same.bits4 (fun HT_ HW_=>?_)
  generalize w13.drew = w14 at Ab Ad HB hHeld ⊢
  refine take_ (i:=0) (N:=some 17) (v:=?_) (a':=?_) #[true,false,false,false,false,false,false,false] rfl rfl (take_ofW HT_.out HW_.out (by kernel_rfl)) (fun _ _ _ h=>h) (Or.inl ⟨by rfl,?_⟩) hHeld ?_ ?_
  rotate_left
  ·rintro w' ⟨s0,s1,s2,s3,s4,s5,s6,s7,s8,s9⟩
   go_simp
   with_reducible rfl
  rotate_left
  ·simp only [Act.put,List.setIfInBounds_toArray,List.set_cons_zero,List.set_cons_succ,i64_w,i32_w]
   rfl
  refine take_ (i:=2) (N:=some 19) (v:=?_) (a':=?_) #[true,false,true,false,false,false,false,false] rfl rfl (take_ofW HT_.out HW_.out (by kernel_rfl)) (fun _ _ _ h=>h) (Or.inl ⟨by rfl,?_⟩) hHeld ?_ ?_
  rotate_left
  ·rintro w' ⟨s0,s1,s2,s3,s4,s5,s6,s7,s8,s9⟩
   go_simp
   with_reducible rfl
  rotate_left
  ·simp only [Act.put,List.setIfInBounds_toArray,List.set_cons_zero,List.set_cons_succ,i64_w,i32_w]
   rfl
  refine join_ (σ:=Value × Value × Nat × Nat) 2 #[true,true,true,true,true,true,false,false] (fun s_=>[(18,.agg #[.int .i64 t192,.int .i64 t193,s_.1,.int .i64 t197,.int .u32 t198]),(20,.agg #[.int .i64 A2,.int .i64 A4,s_.2.1,.int .i64 A7,.int .u32 A8]),(7,.pointer (some ⟨s_.2.2.1,0,none⟩)),(8,.pointer (some ⟨s_.2.2.2,0,none⟩))]) (fun s_ w'=>(w'.cell? ⟨Aa,0,none⟩ = some (.int .i64 a0_0) ∧ w'.cell? ⟨Aa,1,none⟩ = some (.int .i64 a0_1) ∧ w'.cell? ⟨Aa,2,none⟩ = some (.slice A0_2 l0_2.length c0_2) ∧ w'.cell? ⟨Aa,3,none⟩ = some (.int .i64 a0_3) ∧ w'.cell? ⟨Aa,4,none⟩ = some (.int .u32 a0_4) ∧ w'.cell? ⟨Ac,0,none⟩ = some (.int .i64 a1_0) ∧ w'.cell? ⟨Ac,1,none⟩ = some (.int .i64 a1_1) ∧ w'.cell? ⟨Ac,2,none⟩ = some (.slice A1_2 l1_2.length c1_2) ∧ w'.cell? ⟨Ac,3,none⟩ = some (.int .i64 a1_3) ∧ w'.cell? ⟨Ac,4,none⟩ = some (.int .u32 a1_4)) ∧ (Kd.S (Kd.slice 3 (Kd.int .i64)) 23 w' w.heap.size (fun k_=>some k_ ≠ (s_.2.1 : Value).ownBlock) s_.1 t194) ∧ (Kd.S (Kd.slice 3 (Kd.int .i64)) 23 w' w.heap.size (fun k_=>some k_ ≠ (s_.1 : Value).ownBlock) s_.2.1 Ax) ∧ (w'.heap[Aa]? = some (.cells #[.int .i64 a0_0,.int .i64 a0_1,.slice A0_2 l0_2.length c0_2,.int .i64 a0_3,.int .u32 a0_4] 63 (0,0))) ∧ (w'.heap[Ac]? = some (.cells #[.int .i64 a1_0,.int .i64 a1_1,.slice A1_2 l1_2.length c1_2,.int .i64 a1_3,.int .u32 a1_4] 63 (0,0))) ∧ (w'.heap[s_.2.2.1]? = some (.cells #[.int .i64 0,.int .i64 0,.slice none 0 0,.int .i64 0,.int .u32 0] 63 (0,0))) ∧ (w'.heap[s_.2.2.2]? = some (.cells #[.int .i64 0,.int .i64 0,.slice none 0 0,.int .i64 0,.int .u32 0] 63 (0,0))) ∧ (w.heap.size ≤ s_.2.2.1) ∧ (w.heap.size ≤ s_.2.2.1) ∧ (Aa ≠ s_.2.2.1) ∧ (s_.2.2.1 ≠ Aa) ∧ (Ac ≠ s_.2.2.1) ∧ (s_.2.2.1 ≠ Ac) ∧ (s_.2.2.2 ≠ s_.2.2.1) ∧ (s_.2.2.1 ≠ s_.2.2.2) ∧ (w.heap.size ≤ s_.2.2.2) ∧ (w.heap.size ≤ s_.2.2.2) ∧ (Aa ≠ s_.2.2.2) ∧ (s_.2.2.2 ≠ Aa) ∧ (Ac ≠ s_.2.2.2) ∧ (s_.2.2.2 ≠ Ac) ∧ (Below w.heap.size w w')) ?_ ?_
  rotate_left
  ·intro hJ1_3_4_5
   refine join_ (σ:=Value × Value × Nat) 3 #[true,true,true,true,true,false,false,false] (fun s_=>[(18,.agg #[.int .i64 t192,.int .i64 t193,s_.1,.int .i64 t197,.int .u32 t198]),(20,.agg #[.int .i64 A2,.int .i64 A4,s_.2.1,.int .i64 A7,.int .u32 A8]),(7,.pointer (some ⟨s_.2.2,0,none⟩))]) (fun s_ w'=>(w'.cell? ⟨Aa,0,none⟩ = some (.int .i64 a0_0) ∧ w'.cell? ⟨Aa,1,none⟩ = some (.int .i64 a0_1) ∧ w'.cell? ⟨Aa,2,none⟩ = some (.slice A0_2 l0_2.length c0_2) ∧ w'.cell? ⟨Aa,3,none⟩ = some (.int .i64 a0_3) ∧ w'.cell? ⟨Aa,4,none⟩ = some (.int .u32 a0_4) ∧ w'.cell? ⟨Ac,0,none⟩ = some (.int .i64 a1_0) ∧ w'.cell? ⟨Ac,1,none⟩ = some (.int .i64 a1_1) ∧ w'.cell? ⟨Ac,2,none⟩ = some (.slice A1_2 l1_2.length c1_2) ∧ w'.cell? ⟨Ac,3,none⟩ = some (.int .i64 a1_3) ∧ w'.cell? ⟨Ac,4,none⟩ = some (.int .u32 a1_4)) ∧ (Kd.S (Kd.slice 3 (Kd.int .i64)) 23 w' w.heap.size (fun k_=>some k_ ≠ (s_.2.1 : Value).ownBlock) s_.1 t194) ∧ (Kd.S (Kd.slice 3 (Kd.int .i64)) 23 w' w.heap.size (fun k_=>some k_ ≠ (s_.1 : Value).ownBlock) s_.2.1 Ax) ∧ (w'.heap[Aa]? = some (.cells #[.int .i64 a0_0,.int .i64 a0_1,.slice A0_2 l0_2.length c0_2,.int .i64 a0_3,.int .u32 a0_4] 63 (0,0))) ∧ (w'.heap[Ac]? = some (.cells #[.int .i64 a1_0,.int .i64 a1_1,.slice A1_2 l1_2.length c1_2,.int .i64 a1_3,.int .u32 a1_4] 63 (0,0))) ∧ (w'.heap[s_.2.2]? = some (.cells #[.int .i64 0,.int .i64 0,.slice none 0 0,.int .i64 0,.int .u32 0] 63 (0,0))) ∧ (w.heap.size ≤ s_.2.2) ∧ (w.heap.size ≤ s_.2.2) ∧ (Aa ≠ s_.2.2) ∧ (s_.2.2 ≠ Aa) ∧ (Ac ≠ s_.2.2) ∧ (s_.2.2 ≠ Ac) ∧ (Below w.heap.size w w')) ?_ ?_
   rotate_left
   ·intro hJ1_3_4
    refine join_ (σ:=Value × Value × Nat) 3 #[true,true,true,true,false,true,false,false] (fun s_=>[(18,.agg #[.int .i64 t192,.int .i64 t193,s_.1,.int .i64 t197,.int .u32 t198]),(20,.agg #[.int .i64 A2,.int .i64 A4,s_.2.1,.int .i64 A7,.int .u32 A8]),(8,.pointer (some ⟨s_.2.2,0,none⟩))]) (fun s_ w'=>(w'.cell? ⟨Aa,0,none⟩ = some (.int .i64 a0_0) ∧ w'.cell? ⟨Aa,1,none⟩ = some (.int .i64 a0_1) ∧ w'.cell? ⟨Aa,2,none⟩ = some (.slice A0_2 l0_2.length c0_2) ∧ w'.cell? ⟨Aa,3,none⟩ = some (.int .i64 a0_3) ∧ w'.cell? ⟨Aa,4,none⟩ = some (.int .u32 a0_4) ∧ w'.cell? ⟨Ac,0,none⟩ = some (.int .i64 a1_0) ∧ w'.cell? ⟨Ac,1,none⟩ = some (.int .i64 a1_1) ∧ w'.cell? ⟨Ac,2,none⟩ = some (.slice A1_2 l1_2.length c1_2) ∧ w'.cell? ⟨Ac,3,none⟩ = some (.int .i64 a1_3) ∧ w'.cell? ⟨Ac,4,none⟩ = some (.int .u32 a1_4)) ∧ (Kd.S (Kd.slice 3 (Kd.int .i64)) 23 w' w.heap.size (fun k_=>some k_ ≠ (s_.2.1 : Value).ownBlock) s_.1 t194) ∧ (Kd.S (Kd.slice 3 (Kd.int .i64)) 23 w' w.heap.size (fun k_=>some k_ ≠ (s_.1 : Value).ownBlock) s_.2.1 Ax) ∧ (w'.heap[Aa]? = some (.cells #[.int .i64 a0_0,.int .i64 a0_1,.slice A0_2 l0_2.length c0_2,.int .i64 a0_3,.int .u32 a0_4] 63 (0,0))) ∧ (w'.heap[Ac]? = some (.cells #[.int .i64 a1_0,.int .i64 a1_1,.slice A1_2 l1_2.length c1_2,.int .i64 a1_3,.int .u32 a1_4] 63 (0,0))) ∧ (w'.heap[s_.2.2]? = some (.cells #[.int .i64 0,.int .i64 0,.slice none 0 0,.int .i64 0,.int .u32 0] 63 (0,0))) ∧ (w.heap.size ≤ s_.2.2) ∧ (w.heap.size ≤ s_.2.2) ∧ (Aa ≠ s_.2.2) ∧ (s_.2.2 ≠ Aa) ∧ (Ac ≠ s_.2.2) ∧ (s_.2.2 ≠ Ac) ∧ (Below w.heap.size w w')) ?_ ?_
    rotate_left
    ·intro hJ1_3_5
     refine join_ (σ:=Value × Nat × Nat) 3 #[true,true,true,false,true,true,false,false] (fun s_=>[(18,.agg #[.int .i64 t192,.int .i64 t193,s_.1,.int .i64 t197,.int .u32 t198]),(7,.pointer (some ⟨s_.2.1,0,none⟩)),(8,.pointer (some ⟨s_.2.2,0,none⟩))]) (fun s_ w'=>(w'.cell? ⟨Aa,0,none⟩ = some (.int .i64 a0_0) ∧ w'.cell? ⟨Aa,1,none⟩ = some (.int .i64 a0_1) ∧ w'.cell? ⟨Aa,2,none⟩ = some (.slice A0_2 l0_2.length c0_2) ∧ w'.cell? ⟨Aa,3,none⟩ = some (.int .i64 a0_3) ∧ w'.cell? ⟨Aa,4,none⟩ = some (.int .u32 a0_4) ∧ w'.cell? ⟨Ac,0,none⟩ = some (.int .i64 a1_0) ∧ w'.cell? ⟨Ac,1,none⟩ = some (.int .i64 a1_1) ∧ w'.cell? ⟨Ac,2,none⟩ = some (.slice A1_2 l1_2.length c1_2) ∧ w'.cell? ⟨Ac,3,none⟩ = some (.int .i64 a1_3) ∧ w'.cell? ⟨Ac,4,none⟩ = some (.int .u32 a1_4)) ∧ (Kd.S (Kd.slice 3 (Kd.int .i64)) 23 w' w.heap.size (fun _=>True) s_.1 t194) ∧ (w'.heap[Aa]? = some (.cells #[.int .i64 a0_0,.int .i64 a0_1,.slice A0_2 l0_2.length c0_2,.int .i64 a0_3,.int .u32 a0_4] 63 (0,0))) ∧ (w'.heap[Ac]? = some (.cells #[.int .i64 a1_0,.int .i64 a1_1,.slice A1_2 l1_2.length c1_2,.int .i64 a1_3,.int .u32 a1_4] 63 (0,0))) ∧ (w'.heap[s_.2.1]? = some (.cells #[.int .i64 0,.int .i64 0,.slice none 0 0,.int .i64 0,.int .u32 0] 63 (0,0))) ∧ (w'.heap[s_.2.2]? = some (.cells #[.int .i64 0,.int .i64 0,.slice none 0 0,.int .i64 0,.int .u32 0] 63 (0,0))) ∧ (w.heap.size ≤ s_.2.1) ∧ (w.heap.size ≤ s_.2.1) ∧ (Aa ≠ s_.2.1) ∧ (s_.2.1 ≠ Aa) ∧ (Ac ≠ s_.2.1) ∧ (s_.2.1 ≠ Ac) ∧ (s_.2.2 ≠ s_.2.1) ∧ (s_.2.1 ≠ s_.2.2) ∧ (w.heap.size ≤ s_.2.2) ∧ (w.heap.size ≤ s_.2.2) ∧ (Aa ≠ s_.2.2) ∧ (s_.2.2 ≠ Aa) ∧ (Ac ≠ s_.2.2) ∧ (s_.2.2 ≠ Ac) ∧ (Below w.heap.size w w')) ?_ ?_
     rotate_left
     ·intro hJ1_4_5
      refine join_ (σ:=Value × Value) 4 #[true,true,true,true,false,false,false,false] (fun s_=>[(18,.agg #[.int .i64 t192,.int .i64 t193,s_.1,.int .i64 t197,.int .u32 t198]),(20,.agg #[.int .i64 A2,.int .i64 A4,s_.2,.int .i64 A7,.int .u32 A8])]) (fun s_ w'=>(w'.cell? ⟨Aa,0,none⟩ = some (.int .i64 a0_0) ∧ w'.cell? ⟨Aa,1,none⟩ = some (.int .i64 a0_1) ∧ w'.cell? ⟨Aa,2,none⟩ = some (.slice A0_2 l0_2.length c0_2) ∧ w'.cell? ⟨Aa,3,none⟩ = some (.int .i64 a0_3) ∧ w'.cell? ⟨Aa,4,none⟩ = some (.int .u32 a0_4) ∧ w'.cell? ⟨Ac,0,none⟩ = some (.int .i64 a1_0) ∧ w'.cell? ⟨Ac,1,none⟩ = some (.int .i64 a1_1) ∧ w'.cell? ⟨Ac,2,none⟩ = some (.slice A1_2 l1_2.length c1_2) ∧ w'.cell? ⟨Ac,3,none⟩ = some (.int .i64 a1_3) ∧ w'.cell? ⟨Ac,4,none⟩ = some (.int .u32 a1_4)) ∧ (Kd.S (Kd.slice 3 (Kd.int .i64)) 23 w' w.heap.size (fun k_=>some k_ ≠ (s_.2 : Value).ownBlock) s_.1 t194) ∧ (Kd.S (Kd.slice 3 (Kd.int .i64)) 23 w' w.heap.size (fun k_=>some k_ ≠ (s_.1 : Value).ownBlock) s_.2 Ax) ∧ (w'.heap[Aa]? = some (.cells #[.int .i64 a0_0,.int .i64 a0_1,.slice A0_2 l0_2.length c0_2,.int .i64 a0_3,.int .u32 a0_4] 63 (0,0))) ∧ (w'.heap[Ac]? = some (.cells #[.int .i64 a1_0,.int .i64 a1_1,.slice A1_2 l1_2.length c1_2,.int .i64 a1_3,.int .u32 a1_4] 63 (0,0))) ∧ (Below w.heap.size w w')) ?_ ?_
      rotate_left
      ·intro hJ1_3
       refine join_ (σ:=Value × Nat) 4 #[true,true,true,false,true,false,false,false] (fun s_=>[(18,.agg #[.int .i64 t192,.int .i64 t193,s_.1,.int .i64 t197,.int .u32 t198]),(7,.pointer (some ⟨s_.2,0,none⟩))]) (fun s_ w'=>(w'.cell? ⟨Aa,0,none⟩ = some (.int .i64 a0_0) ∧ w'.cell? ⟨Aa,1,none⟩ = some (.int .i64 a0_1) ∧ w'.cell? ⟨Aa,2,none⟩ = some (.slice A0_2 l0_2.length c0_2) ∧ w'.cell? ⟨Aa,3,none⟩ = some (.int .i64 a0_3) ∧ w'.cell? ⟨Aa,4,none⟩ = some (.int .u32 a0_4) ∧ w'.cell? ⟨Ac,0,none⟩ = some (.int .i64 a1_0) ∧ w'.cell? ⟨Ac,1,none⟩ = some (.int .i64 a1_1) ∧ w'.cell? ⟨Ac,2,none⟩ = some (.slice A1_2 l1_2.length c1_2) ∧ w'.cell? ⟨Ac,3,none⟩ = some (.int .i64 a1_3) ∧ w'.cell? ⟨Ac,4,none⟩ = some (.int .u32 a1_4)) ∧ (Kd.S (Kd.slice 3 (Kd.int .i64)) 23 w' w.heap.size (fun _=>True) s_.1 t194) ∧ (w'.heap[Aa]? = some (.cells #[.int .i64 a0_0,.int .i64 a0_1,.slice A0_2 l0_2.length c0_2,.int .i64 a0_3,.int .u32 a0_4] 63 (0,0))) ∧ (w'.heap[Ac]? = some (.cells #[.int .i64 a1_0,.int .i64 a1_1,.slice A1_2 l1_2.length c1_2,.int .i64 a1_3,.int .u32 a1_4] 63 (0,0))) ∧ (w'.heap[s_.2]? = some (.cells #[.int .i64 0,.int .i64 0,.slice none 0 0,.int .i64 0,.int .u32 0] 63 (0,0))) ∧ (w.heap.size ≤ s_.2) ∧ (w.heap.size ≤ s_.2) ∧ (Aa ≠ s_.2) ∧ (s_.2 ≠ Aa) ∧ (Ac ≠ s_.2) ∧ (s_.2 ≠ Ac) ∧ (Below w.heap.size w w')) ?_ ?_
       rotate_left
       ·intro hJ1_4
        refine join_ (σ:=Value × Nat) 4 #[true,true,true,false,false,true,false,false] (fun s_=>[(18,.agg #[.int .i64 t192,.int .i64 t193,s_.1,.int .i64 t197,.int .u32 t198]),(8,.pointer (some ⟨s_.2,0,none⟩))]) (fun s_ w'=>(w'.cell? ⟨Aa,0,none⟩ = some (.int .i64 a0_0) ∧ w'.cell? ⟨Aa,1,none⟩ = some (.int .i64 a0_1) ∧ w'.cell? ⟨Aa,2,none⟩ = some (.slice A0_2 l0_2.length c0_2) ∧ w'.cell? ⟨Aa,3,none⟩ = some (.int .i64 a0_3) ∧ w'.cell? ⟨Aa,4,none⟩ = some (.int .u32 a0_4) ∧ w'.cell? ⟨Ac,0,none⟩ = some (.int .i64 a1_0) ∧ w'.cell? ⟨Ac,1,none⟩ = some (.int .i64 a1_1) ∧ w'.cell? ⟨Ac,2,none⟩ = some (.slice A1_2 l1_2.length c1_2) ∧ w'.cell? ⟨Ac,3,none⟩ = some (.int .i64 a1_3) ∧ w'.cell? ⟨Ac,4,none⟩ = some (.int .u32 a1_4)) ∧ (Kd.S (Kd.slice 3 (Kd.int .i64)) 23 w' w.heap.size (fun _=>True) s_.1 t194) ∧ (w'.heap[Aa]? = some (.cells #[.int .i64 a0_0,.int .i64 a0_1,.slice A0_2 l0_2.length c0_2,.int .i64 a0_3,.int .u32 a0_4] 63 (0,0))) ∧ (w'.heap[Ac]? = some (.cells #[.int .i64 a1_0,.int .i64 a1_1,.slice A1_2 l1_2.length c1_2,.int .i64 a1_3,.int .u32 a1_4] 63 (0,0))) ∧ (w'.heap[s_.2]? = some (.cells #[.int .i64 0,.int .i64 0,.slice none 0 0,.int .i64 0,.int .u32 0] 63 (0,0))) ∧ (w.heap.size ≤ s_.2) ∧ (w.heap.size ≤ s_.2) ∧ (Aa ≠ s_.2) ∧ (s_.2 ≠ Aa) ∧ (Ac ≠ s_.2) ∧ (s_.2 ≠ Ac) ∧ (Below w.heap.size w w')) ?_ ?_
        rotate_left
        ·intro hJ1_5
         refine join_ (σ:=Nat × Nat) 4 #[true,false,true,false,true,true,false,false] (fun s_=>[(7,.pointer (some ⟨s_.1,0,none⟩)),(8,.pointer (some ⟨s_.2,0,none⟩))]) (fun s_ w'=>(w'.cell? ⟨Aa,0,none⟩ = some (.int .i64 a0_0) ∧ w'.cell? ⟨Aa,1,none⟩ = some (.int .i64 a0_1) ∧ w'.cell? ⟨Aa,2,none⟩ = some (.slice A0_2 l0_2.length c0_2) ∧ w'.cell? ⟨Aa,3,none⟩ = some (.int .i64 a0_3) ∧ w'.cell? ⟨Aa,4,none⟩ = some (.int .u32 a0_4) ∧ w'.cell? ⟨Ac,0,none⟩ = some (.int .i64 a1_0) ∧ w'.cell? ⟨Ac,1,none⟩ = some (.int .i64 a1_1) ∧ w'.cell? ⟨Ac,2,none⟩ = some (.slice A1_2 l1_2.length c1_2) ∧ w'.cell? ⟨Ac,3,none⟩ = some (.int .i64 a1_3) ∧ w'.cell? ⟨Ac,4,none⟩ = some (.int .u32 a1_4)) ∧ (w'.heap[Aa]? = some (.cells #[.int .i64 a0_0,.int .i64 a0_1,.slice A0_2 l0_2.length c0_2,.int .i64 a0_3,.int .u32 a0_4] 63 (0,0))) ∧ (w'.heap[Ac]? = some (.cells #[.int .i64 a1_0,.int .i64 a1_1,.slice A1_2 l1_2.length c1_2,.int .i64 a1_3,.int .u32 a1_4] 63 (0,0))) ∧ (w'.heap[s_.1]? = some (.cells #[.int .i64 0,.int .i64 0,.slice none 0 0,.int .i64 0,.int .u32 0] 63 (0,0))) ∧ (w'.heap[s_.2]? = some (.cells #[.int .i64 0,.int .i64 0,.slice none 0 0,.int .i64 0,.int .u32 0] 63 (0,0))) ∧ (w.heap.size ≤ s_.1) ∧ (w.heap.size ≤ s_.1) ∧ (Aa ≠ s_.1) ∧ (s_.1 ≠ Aa) ∧ (Ac ≠ s_.1) ∧ (s_.1 ≠ Ac) ∧ (s_.2 ≠ s_.1) ∧ (s_.1 ≠ s_.2) ∧ (w.heap.size ≤ s_.2) ∧ (w.heap.size ≤ s_.2) ∧ (Aa ≠ s_.2) ∧ (s_.2 ≠ Aa) ∧ (Ac ≠ s_.2) ∧ (s_.2 ≠ Ac) ∧ (Below w.heap.size w w')) ?_ ?_
         rotate_left
         ·intro hJ4_5
          refine join_ (σ:=Value) 5 #[true,true,true,false,false,false,false,false] (fun s_=>[(18,.agg #[.int .i64 t192,.int .i64 t193,s_,.int .i64 t197,.int .u32 t198])]) (fun s_ w'=>(w'.cell? ⟨Aa,0,none⟩ = some (.int .i64 a0_0) ∧ w'.cell? ⟨Aa,1,none⟩ = some (.int .i64 a0_1) ∧ w'.cell? ⟨Aa,2,none⟩ = some (.slice A0_2 l0_2.length c0_2) ∧ w'.cell? ⟨Aa,3,none⟩ = some (.int .i64 a0_3) ∧ w'.cell? ⟨Aa,4,none⟩ = some (.int .u32 a0_4) ∧ w'.cell? ⟨Ac,0,none⟩ = some (.int .i64 a1_0) ∧ w'.cell? ⟨Ac,1,none⟩ = some (.int .i64 a1_1) ∧ w'.cell? ⟨Ac,2,none⟩ = some (.slice A1_2 l1_2.length c1_2) ∧ w'.cell? ⟨Ac,3,none⟩ = some (.int .i64 a1_3) ∧ w'.cell? ⟨Ac,4,none⟩ = some (.int .u32 a1_4)) ∧ (Kd.S (Kd.slice 3 (Kd.int .i64)) 23 w' w.heap.size (fun _=>True) s_ t194) ∧ (w'.heap[Aa]? = some (.cells #[.int .i64 a0_0,.int .i64 a0_1,.slice A0_2 l0_2.length c0_2,.int .i64 a0_3,.int .u32 a0_4] 63 (0,0))) ∧ (w'.heap[Ac]? = some (.cells #[.int .i64 a1_0,.int .i64 a1_1,.slice A1_2 l1_2.length c1_2,.int .i64 a1_3,.int .u32 a1_4] 63 (0,0))) ∧ (Below w.heap.size w w')) ?_ ?_
          rotate_left
          ·intro hJ1
           refine join_ (σ:=Nat) 5 #[true,false,true,false,true,false,false,false] (fun s_=>[(7,.pointer (some ⟨s_,0,none⟩))]) (fun s_ w'=>(w'.cell? ⟨Aa,0,none⟩ = some (.int .i64 a0_0) ∧ w'.cell? ⟨Aa,1,none⟩ = some (.int .i64 a0_1) ∧ w'.cell? ⟨Aa,2,none⟩ = some (.slice A0_2 l0_2.length c0_2) ∧ w'.cell? ⟨Aa,3,none⟩ = some (.int .i64 a0_3) ∧ w'.cell? ⟨Aa,4,none⟩ = some (.int .u32 a0_4) ∧ w'.cell? ⟨Ac,0,none⟩ = some (.int .i64 a1_0) ∧ w'.cell? ⟨Ac,1,none⟩ = some (.int .i64 a1_1) ∧ w'.cell? ⟨Ac,2,none⟩ = some (.slice A1_2 l1_2.length c1_2) ∧ w'.cell? ⟨Ac,3,none⟩ = some (.int .i64 a1_3) ∧ w'.cell? ⟨Ac,4,none⟩ = some (.int .u32 a1_4)) ∧ (w'.heap[Aa]? = some (.cells #[.int .i64 a0_0,.int .i64 a0_1,.slice A0_2 l0_2.length c0_2,.int .i64 a0_3,.int .u32 a0_4] 63 (0,0))) ∧ (w'.heap[Ac]? = some (.cells #[.int .i64 a1_0,.int .i64 a1_1,.slice A1_2 l1_2.length c1_2,.int .i64 a1_3,.int .u32 a1_4] 63 (0,0))) ∧ (w'.heap[s_]? = some (.cells #[.int .i64 0,.int .i64 0,.slice none 0 0,.int .i64 0,.int .u32 0] 63 (0,0))) ∧ (w.heap.size ≤ s_) ∧ (w.heap.size ≤ s_) ∧ (Aa ≠ s_) ∧ (s_ ≠ Aa) ∧ (Ac ≠ s_) ∧ (s_ ≠ Ac) ∧ (Below w.heap.size w w')) ?_ ?_
           rotate_left
           ·intro hJ4
            refine join_ (σ:=Nat) 5 #[true,false,true,false,false,true,false,false] (fun s_=>[(8,.pointer (some ⟨s_,0,none⟩))]) (fun s_ w'=>(w'.cell? ⟨Aa,0,none⟩ = some (.int .i64 a0_0) ∧ w'.cell? ⟨Aa,1,none⟩ = some (.int .i64 a0_1) ∧ w'.cell? ⟨Aa,2,none⟩ = some (.slice A0_2 l0_2.length c0_2) ∧ w'.cell? ⟨Aa,3,none⟩ = some (.int .i64 a0_3) ∧ w'.cell? ⟨Aa,4,none⟩ = some (.int .u32 a0_4) ∧ w'.cell? ⟨Ac,0,none⟩ = some (.int .i64 a1_0) ∧ w'.cell? ⟨Ac,1,none⟩ = some (.int .i64 a1_1) ∧ w'.cell? ⟨Ac,2,none⟩ = some (.slice A1_2 l1_2.length c1_2) ∧ w'.cell? ⟨Ac,3,none⟩ = some (.int .i64 a1_3) ∧ w'.cell? ⟨Ac,4,none⟩ = some (.int .u32 a1_4)) ∧ (w'.heap[Aa]? = some (.cells #[.int .i64 a0_0,.int .i64 a0_1,.slice A0_2 l0_2.length c0_2,.int .i64 a0_3,.int .u32 a0_4] 63 (0,0))) ∧ (w'.heap[Ac]? = some (.cells #[.int .i64 a1_0,.int .i64 a1_1,.slice A1_2 l1_2.length c1_2,.int .i64 a1_3,.int .u32 a1_4] 63 (0,0))) ∧ (w'.heap[s_]? = some (.cells #[.int .i64 0,.int .i64 0,.slice none 0 0,.int .i64 0,.int .u32 0] 63 (0,0))) ∧ (w.heap.size ≤ s_) ∧ (w.heap.size ≤ s_) ∧ (Aa ≠ s_) ∧ (s_ ≠ Aa) ∧ (Ac ≠ s_) ∧ (s_ ≠ Ac) ∧ (Below w.heap.size w w')) ?_ ?_
            rotate_left
            ·intro hJ5
             refine three_ (i:=1) (j:=4) (k:=5) (Ni:=some 18) (Nj:=some 7) (Nk:=some 8) #[true,true,true,false,false,false,false,false] #[true,false,true,false,true,false,false,false] #[true,false,true,false,false,true,false,false] rfl rfl rfl rfl rfl rfl (three_of HT_.out (by kernel_rfl)) (by decide) (by decide) (by decide) (fun K hK=>?_) (fun K hK=>?_) (fun K hK=>?_)
             ·skip
              refine goes_ Try.func82 (by kernel_rfl) rfl #[.agg #[.int .i64 a0_0,.int .i64 a0_1,.slice A0_2 l0_2.length c0_2,.int .i64 a0_3,.int .u32 a0_4]] (by rfl) rfl rfl qAs11_8 ?_
              with_reducible refine (least_Small.calls k a0_0 a0_1 _ _ l0_2 a0_3 a0_4 t192 t193 t194 t197 t198 _ ?side1 ?side2 A5.out).mono ?_
              (case side1=>repeat (first|exact (Kd.C_below HR0_2.out HB.out)|(with_reducible refine Kd.C_alloc ?_ _)|(with_reducible refine Kd.C_drewN ?_ _)|(with_reducible refine Kd.C_drew ?_)))
              (case side2=>exact HC0_2.out)
              rintro e w15 ⟨v195,rfl,ho0,hb⟩
              refine ⟨_,rfl,?_⟩
              have n0_:=Aside0.mk (Kd.S_lower ho0 (below_size qBs11_3))
              have n1_:=Aside0.mk (blk_below (g:=Aa) (o:=.cells #[.int .i64 a0_0,.int .i64 a0_1,.slice A0_2 l0_2.length c0_2,.int .i64 a0_3,.int .u32 a0_4] 63 (0,0)) (qDs11_ Ab.out) hb)
              have n2_:=Aside0.mk (blk_below (g:=Ac) (o:=.cells #[.int .i64 a1_0,.int .i64 a1_1,.slice A1_2 l1_2.length c1_2,.int .i64 a1_3,.int .u32 a1_4] 63 (0,0)) (qDs11_ Ad.out) hb)
              have n3_:=Aside0.mk (below_step qBs11_3 hb)
              clear Ab
              clear Ad
              clear HB
              have As:=n0_
              have Ab:=n1_
              have Ad:=n2_
              have HB:=n3_
              clear n0_ n1_ n2_ n3_
              (try clear hb)
              (try clear hb2)
              (try clear hk)
              (try clear hi)
              (try clear ho0)
              refine hK.out _ _ ⟨(blk_cell Ab.out 0).trans rfl,(blk_cell Ab.out 1).trans rfl,(blk_cell Ab.out 2).trans rfl,(blk_cell Ab.out 3).trans rfl,(blk_cell Ab.out 4).trans rfl,(blk_cell Ad.out 0).trans rfl,(blk_cell Ad.out 1).trans rfl,(blk_cell Ad.out 2).trans rfl,(blk_cell Ad.out 3).trans rfl,(blk_cell Ad.out 4).trans rfl⟩ (fun hHeld=>?_)
              clear hK K
              refine norm_ (a':=?_) ?_ ?_
              rotate_left
              ·show Act.put _ (some 18) _ = _
               simp only [Act.put,List.setIfInBounds_toArray,List.set_cons_zero,List.set_cons_succ,i64_w,i32_w]
               rfl
              exact norm_ (by first|(simp only [putAll,Act.put,List.setIfInBounds_toArray,List.set_cons_zero,List.set_cons_succ];done)|(simp only [putAll,Act.put,List.setIfInBounds_toArray,List.set_cons_zero,List.set_cons_succ];rfl)) (hJ1 (v195) _ ⟨hHeld,(by (with_reducible repeat (first|apply Kd.S_alloc|apply Kd.S_drewN|apply Kd.S_drew));exact As.out),(qDs11_ Ab.out),(qDs11_ Ad.out),qBs11_3⟩)
             ·skip
              refine box_step ?hg (N:=7) ?hd (cs:=#[.int .i64 0,.int .i64 0,.slice none 0 0,.int .i64 0,.int .u32 0]) (t:=63) ?hr ?_;(case hd=>rfl);(case hg=>rfl);(case hr=>first|(go_simp;done)|(go_simp;rfl))
              intro Ae hg w15 hbox hb
              have n0_:=Aside0.mk (blk_below (g:=Aa) (o:=.cells #[.int .i64 a0_0,.int .i64 a0_1,.slice A0_2 l0_2.length c0_2,.int .i64 a0_3,.int .u32 a0_4] 63 (0,0)) (qDs11_ Ab.out) hb)
              have n1_:=Aside0.mk (blk_below (g:=Ac) (o:=.cells #[.int .i64 a1_0,.int .i64 a1_1,.slice A1_2 l1_2.length c1_2,.int .i64 a1_3,.int .u32 a1_4] 63 (0,0)) (qDs11_ Ad.out) hb)
              have n2_:=Aside0.mk (below_step qBs11_3 hb)
              have n3_:=Aside0.mk (hbox)
              have n4_:=Aside0.mk ((by rw [hg];exact (below_size qBs11_3) : w.heap.size ≤ Ae))
              have n5_:=Aside0.mk ((by rw [hg];exact (below_size qBs11_3) : w.heap.size ≤ Ae))
              have n6_:=Aside0.mk ((by rw [hg];exact Nat.ne_of_lt (blk_lt (g:=Aa) (o:=.cells #[.int .i64 a0_0,.int .i64 a0_1,.slice A0_2 l0_2.length c0_2,.int .i64 a0_3,.int .u32 a0_4] 63 (0,0)) (qDs11_ Ab.out)) : Aa ≠ Ae))
              have n7_:=Aside0.mk ((by rw [hg];exact Nat.ne_of_gt (blk_lt (g:=Aa) (o:=.cells #[.int .i64 a0_0,.int .i64 a0_1,.slice A0_2 l0_2.length c0_2,.int .i64 a0_3,.int .u32 a0_4] 63 (0,0)) (qDs11_ Ab.out)) : Ae ≠ Aa))
              have n8_:=Aside0.mk ((by rw [hg];exact Nat.ne_of_lt (blk_lt (g:=Ac) (o:=.cells #[.int .i64 a1_0,.int .i64 a1_1,.slice A1_2 l1_2.length c1_2,.int .i64 a1_3,.int .u32 a1_4] 63 (0,0)) (qDs11_ Ad.out)) : Ac ≠ Ae))
              have n9_:=Aside0.mk ((by rw [hg];exact Nat.ne_of_gt (blk_lt (g:=Ac) (o:=.cells #[.int .i64 a1_0,.int .i64 a1_1,.slice A1_2 l1_2.length c1_2,.int .i64 a1_3,.int .u32 a1_4] 63 (0,0)) (qDs11_ Ad.out)) : Ae ≠ Ac))
              clear Ab
              clear Ad
              clear HB
              have Ab:=n0_
              have Ad:=n1_
              have HB:=n2_
              have Ak:=n3_
              have A0:=n4_
              have Au:=n5_
              have Ag:=n6_
              have Ao:=n7_
              have Ah:=n8_
              have Ap:=n9_
              clear n0_ n1_ n2_ n3_ n4_ n5_ n6_ n7_ n8_ n9_
              clear hb hbox hg
              refine hK.out _ _ ⟨(blk_cell Ab.out 0).trans rfl,(blk_cell Ab.out 1).trans rfl,(blk_cell Ab.out 2).trans rfl,(blk_cell Ab.out 3).trans rfl,(blk_cell Ab.out 4).trans rfl,(blk_cell Ad.out 0).trans rfl,(blk_cell Ad.out 1).trans rfl,(blk_cell Ad.out 2).trans rfl,(blk_cell Ad.out 3).trans rfl,(blk_cell Ad.out 4).trans rfl⟩ (fun hHeld=>?_)
              clear hK K
              refine norm_ (a':=?_) ?_ ?_
              rotate_left
              ·show Act.put _ (some 7) _ = _
               simp only [Act.put,List.setIfInBounds_toArray,List.set_cons_zero,List.set_cons_succ,i64_w,i32_w]
               rfl
              exact norm_ (by first|(simp only [putAll,Act.put,List.setIfInBounds_toArray,List.set_cons_zero,List.set_cons_succ];done)|(simp only [putAll,Act.put,List.setIfInBounds_toArray,List.set_cons_zero,List.set_cons_succ];rfl)) (hJ4 (Ae) _ ⟨hHeld,(qDs11_ Ab.out),(qDs11_ Ad.out),(qDs11_ Ak.out),A0.out,Au.out,Ag.out,Ao.out,Ah.out,Ap.out,qBs11_4⟩)
             ·skip
              refine box_step ?hg (N:=8) ?hd (cs:=#[.int .i64 0,.int .i64 0,.slice none 0 0,.int .i64 0,.int .u32 0]) (t:=63) ?hr ?_;(case hd=>rfl);(case hg=>rfl);(case hr=>first|(go_simp;done)|(go_simp;rfl))
              intro Af hg w15 hbox hb
              have n0_:=Aside0.mk (blk_below (g:=Aa) (o:=.cells #[.int .i64 a0_0,.int .i64 a0_1,.slice A0_2 l0_2.length c0_2,.int .i64 a0_3,.int .u32 a0_4] 63 (0,0)) (qDs11_ Ab.out) hb)
              have n1_:=Aside0.mk (blk_below (g:=Ac) (o:=.cells #[.int .i64 a1_0,.int .i64 a1_1,.slice A1_2 l1_2.length c1_2,.int .i64 a1_3,.int .u32 a1_4] 63 (0,0)) (qDs11_ Ad.out) hb)
              have n2_:=Aside0.mk (below_step qBs11_3 hb)
              have n3_:=Aside0.mk (hbox)
              have n4_:=Aside0.mk ((by rw [hg];exact (below_size qBs11_3) : w.heap.size ≤ Af))
              have n5_:=Aside0.mk ((by rw [hg];exact (below_size qBs11_3) : w.heap.size ≤ Af))
              have n6_:=Aside0.mk ((by rw [hg];exact Nat.ne_of_lt (blk_lt (g:=Aa) (o:=.cells #[.int .i64 a0_0,.int .i64 a0_1,.slice A0_2 l0_2.length c0_2,.int .i64 a0_3,.int .u32 a0_4] 63 (0,0)) (qDs11_ Ab.out)) : Aa ≠ Af))
              have n7_:=Aside0.mk ((by rw [hg];exact Nat.ne_of_gt (blk_lt (g:=Aa) (o:=.cells #[.int .i64 a0_0,.int .i64 a0_1,.slice A0_2 l0_2.length c0_2,.int .i64 a0_3,.int .u32 a0_4] 63 (0,0)) (qDs11_ Ab.out)) : Af ≠ Aa))
              have n8_:=Aside0.mk ((by rw [hg];exact Nat.ne_of_lt (blk_lt (g:=Ac) (o:=.cells #[.int .i64 a1_0,.int .i64 a1_1,.slice A1_2 l1_2.length c1_2,.int .i64 a1_3,.int .u32 a1_4] 63 (0,0)) (qDs11_ Ad.out)) : Ac ≠ Af))
              have n9_:=Aside0.mk ((by rw [hg];exact Nat.ne_of_gt (blk_lt (g:=Ac) (o:=.cells #[.int .i64 a1_0,.int .i64 a1_1,.slice A1_2 l1_2.length c1_2,.int .i64 a1_3,.int .u32 a1_4] 63 (0,0)) (qDs11_ Ad.out)) : Af ≠ Ac))
              clear Ab
              clear Ad
              clear HB
              have Ab:=n0_
              have Ad:=n1_
              have HB:=n2_
              have Al:=n3_
              have A1:=n4_
              have Av:=n5_
              have Ai:=n6_
              have Aq:=n7_
              have Aj:=n8_
              have Ar:=n9_
              clear n0_ n1_ n2_ n3_ n4_ n5_ n6_ n7_ n8_ n9_
              clear hb hbox hg
              refine hK.out _ _ ⟨(blk_cell Ab.out 0).trans rfl,(blk_cell Ab.out 1).trans rfl,(blk_cell Ab.out 2).trans rfl,(blk_cell Ab.out 3).trans rfl,(blk_cell Ab.out 4).trans rfl,(blk_cell Ad.out 0).trans rfl,(blk_cell Ad.out 1).trans rfl,(blk_cell Ad.out 2).trans rfl,(blk_cell Ad.out 3).trans rfl,(blk_cell Ad.out 4).trans rfl⟩ (fun hHeld=>?_)
              clear hK K
              refine norm_ (a':=?_) ?_ ?_
              rotate_left
              ·show Act.put _ (some 8) _ = _
               simp only [Act.put,List.setIfInBounds_toArray,List.set_cons_zero,List.set_cons_succ,i64_w,i32_w]
               rfl
              exact norm_ (by first|(simp only [putAll,Act.put,List.setIfInBounds_toArray,List.set_cons_zero,List.set_cons_succ];done)|(simp only [putAll,Act.put,List.setIfInBounds_toArray,List.set_cons_zero,List.set_cons_succ];rfl)) (hJ5 (Af) _ ⟨hHeld,(qDs11_ Ab.out),(qDs11_ Ad.out),(qDs11_ Al.out),A1.out,Av.out,Ai.out,Aq.out,Aj.out,Ar.out,qBs11_5⟩)
            ·skip
             rintro Af w16 ⟨hS_,h0_,h1_,h2_,h3_,h4_,h5_,h6_,h7_,h8_,h9_⟩
             have n0_ : Aside0 (w16.heap[Aa]? = some (.cells #[.int .i64 a0_0,.int .i64 a0_1,.slice A0_2 l0_2.length c0_2,.int .i64 a0_3,.int .u32 a0_4] 63 (0,0))):=⟨h0_⟩
             have n1_ : Aside0 (w16.heap[Ac]? = some (.cells #[.int .i64 a1_0,.int .i64 a1_1,.slice A1_2 l1_2.length c1_2,.int .i64 a1_3,.int .u32 a1_4] 63 (0,0))):=⟨h1_⟩
             have n2_ : Aside0 (w16.heap[Af]? = some (.cells #[.int .i64 0,.int .i64 0,.slice none 0 0,.int .i64 0,.int .u32 0] 63 (0,0))):=⟨h2_⟩
             have n3_ : Aside0 (w.heap.size ≤ Af):=⟨h3_⟩
             have n4_ : Aside0 (w.heap.size ≤ Af):=⟨h4_⟩
             have n5_ : Aside0 (Aa ≠ Af):=⟨h5_⟩
             have n6_ : Aside0 (Af ≠ Aa):=⟨h6_⟩
             have n7_ : Aside0 (Ac ≠ Af):=⟨h7_⟩
             have n8_ : Aside0 (Af ≠ Ac):=⟨h8_⟩
             have n9_ : Aside0 (Below w.heap.size w w16):=⟨h9_⟩
             clear Ab
             clear Ad
             clear HB
             clear h0_ h1_ h2_ h3_ h4_ h5_ h6_ h7_ h8_ h9_
             have Ab:=n0_
             have Ad:=n1_
             have Al:=n2_
             have A1:=n3_
             have Av:=n4_
             have Ai:=n5_
             have Aq:=n6_
             have Aj:=n7_
             have Ar:=n8_
             have HB:=n9_
             clear n0_ n1_ n2_ n3_ n4_ n5_ n6_ n7_ n8_ n9_
             have hHeld : w16.cell? ⟨Aa,0,none⟩ = some (.int .i64 a0_0) ∧ w16.cell? ⟨Aa,1,none⟩ = some (.int .i64 a0_1) ∧ w16.cell? ⟨Aa,2,none⟩ = some (.slice A0_2 l0_2.length c0_2) ∧ w16.cell? ⟨Aa,3,none⟩ = some (.int .i64 a0_3) ∧ w16.cell? ⟨Aa,4,none⟩ = some (.int .u32 a0_4) ∧ w16.cell? ⟨Ac,0,none⟩ = some (.int .i64 a1_0) ∧ w16.cell? ⟨Ac,1,none⟩ = some (.int .i64 a1_1) ∧ w16.cell? ⟨Ac,2,none⟩ = some (.slice A1_2 l1_2.length c1_2) ∧ w16.cell? ⟨Ac,3,none⟩ = some (.int .i64 a1_3) ∧ w16.cell? ⟨Ac,4,none⟩ = some (.int .u32 a1_4):=hS_
             refine norm_ (a':=?_) ?_ ?_
             rotate_left
             ·simp only [putAll,Act.put,List.setIfInBounds_toArray,List.set_cons_zero,List.set_cons_succ]
              rfl
             refine two_ (i:=1) (j:=4) (Ni:=some 18) (Nj:=some 7) #[true,true,true,false,false,true,false,false] #[true,false,true,false,true,true,false,false] rfl rfl rfl rfl (two_of HT_.out (by kernel_rfl)) (by decide) (by decide) (fun K hK=>?_) (fun K hK=>?_)
             ·skip
              refine goes_ Try.func82 (by kernel_rfl) rfl #[.agg #[.int .i64 a0_0,.int .i64 a0_1,.slice A0_2 l0_2.length c0_2,.int .i64 a0_3,.int .u32 a0_4]] (by rfl) rfl rfl qAs11_8 ?_
              with_reducible refine (least_Small.calls k a0_0 a0_1 _ _ l0_2 a0_3 a0_4 t192 t193 t194 t197 t198 _ ?side1 ?side2 A5.out).mono ?_
              (case side1=>repeat (first|exact (Kd.C_below HR0_2.out HB.out)|(with_reducible refine Kd.C_alloc ?_ _)|(with_reducible refine Kd.C_drewN ?_ _)|(with_reducible refine Kd.C_drew ?_)))
              (case side2=>exact HC0_2.out)
              rintro e w17 ⟨v195,rfl,ho0,hb⟩
              refine ⟨_,rfl,?_⟩
              have n0_:=Aside0.mk (Kd.S_lower ho0 (below_size qBs11_5))
              have n1_:=Aside0.mk (blk_below (g:=Aa) (o:=.cells #[.int .i64 a0_0,.int .i64 a0_1,.slice A0_2 l0_2.length c0_2,.int .i64 a0_3,.int .u32 a0_4] 63 (0,0)) (qDs11_ Ab.out) hb)
              have n2_:=Aside0.mk (blk_below (g:=Ac) (o:=.cells #[.int .i64 a1_0,.int .i64 a1_1,.slice A1_2 l1_2.length c1_2,.int .i64 a1_3,.int .u32 a1_4] 63 (0,0)) (qDs11_ Ad.out) hb)
              have n3_:=Aside0.mk (blk_below (g:=Af) (o:=.cells #[.int .i64 0,.int .i64 0,.slice none 0 0,.int .i64 0,.int .u32 0] 63 (0,0)) (qDs11_ Al.out) hb)
              have n4_:=Aside0.mk (below_step qBs11_5 hb)
              clear Ab
              clear Ad
              clear Al
              clear HB
              have As:=n0_
              have Ab:=n1_
              have Ad:=n2_
              have Al:=n3_
              have HB:=n4_
              clear n0_ n1_ n2_ n3_ n4_
              (try clear hb)
              (try clear hb2)
              (try clear hk)
              (try clear hi)
              (try clear ho0)
              refine hK.out _ _ ⟨(blk_cell Ab.out 0).trans rfl,(blk_cell Ab.out 1).trans rfl,(blk_cell Ab.out 2).trans rfl,(blk_cell Ab.out 3).trans rfl,(blk_cell Ab.out 4).trans rfl,(blk_cell Ad.out 0).trans rfl,(blk_cell Ad.out 1).trans rfl,(blk_cell Ad.out 2).trans rfl,(blk_cell Ad.out 3).trans rfl,(blk_cell Ad.out 4).trans rfl⟩ (fun hHeld=>?_)
              clear hK K
              refine norm_ (a':=?_) ?_ ?_
              rotate_left
              ·show Act.put _ (some 18) _ = _
               simp only [Act.put,List.setIfInBounds_toArray,List.set_cons_zero,List.set_cons_succ,i64_w,i32_w]
               rfl
              exact norm_ (by first|(simp only [putAll,Act.put,List.setIfInBounds_toArray,List.set_cons_zero,List.set_cons_succ];done)|(simp only [putAll,Act.put,List.setIfInBounds_toArray,List.set_cons_zero,List.set_cons_succ];rfl)) (hJ1_5 (v195,Af) _ ⟨hHeld,(by (with_reducible repeat (first|apply Kd.S_alloc|apply Kd.S_drewN|apply Kd.S_drew));exact As.out),(qDs11_ Ab.out),(qDs11_ Ad.out),(qDs11_ Al.out),A1.out,Av.out,Ai.out,Aq.out,Aj.out,Ar.out,qBs11_5⟩)
             ·skip
              refine box_step ?hg (N:=7) ?hd (cs:=#[.int .i64 0,.int .i64 0,.slice none 0 0,.int .i64 0,.int .u32 0]) (t:=63) ?hr ?_;(case hd=>rfl);(case hg=>rfl);(case hr=>first|(go_simp;done)|(go_simp;rfl))
              intro Ae hg w17 hbox hb
              have n0_:=Aside0.mk (blk_below (g:=Aa) (o:=.cells #[.int .i64 a0_0,.int .i64 a0_1,.slice A0_2 l0_2.length c0_2,.int .i64 a0_3,.int .u32 a0_4] 63 (0,0)) (qDs11_ Ab.out) hb)
              have n1_:=Aside0.mk (blk_below (g:=Ac) (o:=.cells #[.int .i64 a1_0,.int .i64 a1_1,.slice A1_2 l1_2.length c1_2,.int .i64 a1_3,.int .u32 a1_4] 63 (0,0)) (qDs11_ Ad.out) hb)
              have n2_:=Aside0.mk (blk_below (g:=Af) (o:=.cells #[.int .i64 0,.int .i64 0,.slice none 0 0,.int .i64 0,.int .u32 0] 63 (0,0)) (qDs11_ Al.out) hb)
              have n3_:=Aside0.mk (below_step qBs11_5 hb)
              have n4_:=Aside0.mk (hbox)
              have n5_:=Aside0.mk ((by rw [hg];exact (below_size qBs11_5) : w.heap.size ≤ Ae))
              have n6_:=Aside0.mk ((by rw [hg];exact (below_size qBs11_5) : w.heap.size ≤ Ae))
              have n7_:=Aside0.mk ((by rw [hg];exact Nat.ne_of_lt (blk_lt (g:=Aa) (o:=.cells #[.int .i64 a0_0,.int .i64 a0_1,.slice A0_2 l0_2.length c0_2,.int .i64 a0_3,.int .u32 a0_4] 63 (0,0)) (qDs11_ Ab.out)) : Aa ≠ Ae))
              have n8_:=Aside0.mk ((by rw [hg];exact Nat.ne_of_gt (blk_lt (g:=Aa) (o:=.cells #[.int .i64 a0_0,.int .i64 a0_1,.slice A0_2 l0_2.length c0_2,.int .i64 a0_3,.int .u32 a0_4] 63 (0,0)) (qDs11_ Ab.out)) : Ae ≠ Aa))
              have n9_:=Aside0.mk ((by rw [hg];exact Nat.ne_of_lt (blk_lt (g:=Ac) (o:=.cells #[.int .i64 a1_0,.int .i64 a1_1,.slice A1_2 l1_2.length c1_2,.int .i64 a1_3,.int .u32 a1_4] 63 (0,0)) (qDs11_ Ad.out)) : Ac ≠ Ae))
              have n10_:=Aside0.mk ((by rw [hg];exact Nat.ne_of_gt (blk_lt (g:=Ac) (o:=.cells #[.int .i64 a1_0,.int .i64 a1_1,.slice A1_2 l1_2.length c1_2,.int .i64 a1_3,.int .u32 a1_4] 63 (0,0)) (qDs11_ Ad.out)) : Ae ≠ Ac))
              have n11_:=Aside0.mk ((by rw [hg];exact Nat.ne_of_lt (blk_lt (g:=Af) (o:=.cells #[.int .i64 0,.int .i64 0,.slice none 0 0,.int .i64 0,.int .u32 0] 63 (0,0)) (qDs11_ Al.out)) : Af ≠ Ae))
              have n12_:=Aside0.mk ((by rw [hg];exact Nat.ne_of_gt (blk_lt (g:=Af) (o:=.cells #[.int .i64 0,.int .i64 0,.slice none 0 0,.int .i64 0,.int .u32 0] 63 (0,0)) (qDs11_ Al.out)) : Ae ≠ Af))
              clear Ab
              clear Ad
              clear Al
              clear HB
              have Ab:=n0_
              have Ad:=n1_
              have Al:=n2_
              have HB:=n3_
              have Ak:=n4_
              have A0:=n5_
              have Au:=n6_
              have Ag:=n7_
              have Ao:=n8_
              have Ah:=n9_
              have Ap:=n10_
              have Am:=n11_
              have An:=n12_
              clear n0_ n1_ n2_ n3_ n4_ n5_ n6_ n7_ n8_ n9_ n10_ n11_ n12_
              clear hb hbox hg
              refine hK.out _ _ ⟨(blk_cell Ab.out 0).trans rfl,(blk_cell Ab.out 1).trans rfl,(blk_cell Ab.out 2).trans rfl,(blk_cell Ab.out 3).trans rfl,(blk_cell Ab.out 4).trans rfl,(blk_cell Ad.out 0).trans rfl,(blk_cell Ad.out 1).trans rfl,(blk_cell Ad.out 2).trans rfl,(blk_cell Ad.out 3).trans rfl,(blk_cell Ad.out 4).trans rfl⟩ (fun hHeld=>?_)
              clear hK K
              refine norm_ (a':=?_) ?_ ?_
              rotate_left
              ·show Act.put _ (some 7) _ = _
               simp only [Act.put,List.setIfInBounds_toArray,List.set_cons_zero,List.set_cons_succ,i64_w,i32_w]
               rfl
              exact norm_ (by first|(simp only [putAll,Act.put,List.setIfInBounds_toArray,List.set_cons_zero,List.set_cons_succ];done)|(simp only [putAll,Act.put,List.setIfInBounds_toArray,List.set_cons_zero,List.set_cons_succ];rfl)) (hJ4_5 (Ae,Af) _ ⟨hHeld,(qDs11_ Ab.out),(qDs11_ Ad.out),(qDs11_ Ak.out),(qDs11_ Al.out),A0.out,Au.out,Ag.out,Ao.out,Ah.out,Ap.out,Am.out,An.out,A1.out,Av.out,Ai.out,Aq.out,Aj.out,Ar.out,qBs11_6⟩)
           ·skip
            rintro Ae w16 ⟨hS_,h0_,h1_,h2_,h3_,h4_,h5_,h6_,h7_,h8_,h9_⟩
            have n0_ : Aside0 (w16.heap[Aa]? = some (.cells #[.int .i64 a0_0,.int .i64 a0_1,.slice A0_2 l0_2.length c0_2,.int .i64 a0_3,.int .u32 a0_4] 63 (0,0))):=⟨h0_⟩
            have n1_ : Aside0 (w16.heap[Ac]? = some (.cells #[.int .i64 a1_0,.int .i64 a1_1,.slice A1_2 l1_2.length c1_2,.int .i64 a1_3,.int .u32 a1_4] 63 (0,0))):=⟨h1_⟩
            have n2_ : Aside0 (w16.heap[Ae]? = some (.cells #[.int .i64 0,.int .i64 0,.slice none 0 0,.int .i64 0,.int .u32 0] 63 (0,0))):=⟨h2_⟩
            have n3_ : Aside0 (w.heap.size ≤ Ae):=⟨h3_⟩
            have n4_ : Aside0 (w.heap.size ≤ Ae):=⟨h4_⟩
            have n5_ : Aside0 (Aa ≠ Ae):=⟨h5_⟩
            have n6_ : Aside0 (Ae ≠ Aa):=⟨h6_⟩
            have n7_ : Aside0 (Ac ≠ Ae):=⟨h7_⟩
            have n8_ : Aside0 (Ae ≠ Ac):=⟨h8_⟩
            have n9_ : Aside0 (Below w.heap.size w w16):=⟨h9_⟩
            clear Ab
            clear Ad
            clear HB
            clear h0_ h1_ h2_ h3_ h4_ h5_ h6_ h7_ h8_ h9_
            have Ab:=n0_
            have Ad:=n1_
            have Ak:=n2_
            have A0:=n3_
            have Au:=n4_
            have Ag:=n5_
            have Ao:=n6_
            have Ah:=n7_
            have Ap:=n8_
            have HB:=n9_
            clear n0_ n1_ n2_ n3_ n4_ n5_ n6_ n7_ n8_ n9_
            have hHeld : w16.cell? ⟨Aa,0,none⟩ = some (.int .i64 a0_0) ∧ w16.cell? ⟨Aa,1,none⟩ = some (.int .i64 a0_1) ∧ w16.cell? ⟨Aa,2,none⟩ = some (.slice A0_2 l0_2.length c0_2) ∧ w16.cell? ⟨Aa,3,none⟩ = some (.int .i64 a0_3) ∧ w16.cell? ⟨Aa,4,none⟩ = some (.int .u32 a0_4) ∧ w16.cell? ⟨Ac,0,none⟩ = some (.int .i64 a1_0) ∧ w16.cell? ⟨Ac,1,none⟩ = some (.int .i64 a1_1) ∧ w16.cell? ⟨Ac,2,none⟩ = some (.slice A1_2 l1_2.length c1_2) ∧ w16.cell? ⟨Ac,3,none⟩ = some (.int .i64 a1_3) ∧ w16.cell? ⟨Ac,4,none⟩ = some (.int .u32 a1_4):=hS_
            refine norm_ (a':=?_) ?_ ?_
            rotate_left
            ·simp only [putAll,Act.put,List.setIfInBounds_toArray,List.set_cons_zero,List.set_cons_succ]
             rfl
            refine two_ (i:=1) (j:=5) (Ni:=some 18) (Nj:=some 8) #[true,true,true,false,true,false,false,false] #[true,false,true,false,true,true,false,false] rfl rfl rfl rfl (two_of HT_.out (by kernel_rfl)) (by decide) (by decide) (fun K hK=>?_) (fun K hK=>?_)
            ·skip
             refine goes_ Try.func82 (by kernel_rfl) rfl #[.agg #[.int .i64 a0_0,.int .i64 a0_1,.slice A0_2 l0_2.length c0_2,.int .i64 a0_3,.int .u32 a0_4]] (by rfl) rfl rfl qAs11_8 ?_
             with_reducible refine (least_Small.calls k a0_0 a0_1 _ _ l0_2 a0_3 a0_4 t192 t193 t194 t197 t198 _ ?side1 ?side2 A5.out).mono ?_
             (case side1=>repeat (first|exact (Kd.C_below HR0_2.out HB.out)|(with_reducible refine Kd.C_alloc ?_ _)|(with_reducible refine Kd.C_drewN ?_ _)|(with_reducible refine Kd.C_drew ?_)))
             (case side2=>exact HC0_2.out)
             rintro e w17 ⟨v195,rfl,ho0,hb⟩
             refine ⟨_,rfl,?_⟩
             have n0_:=Aside0.mk (Kd.S_lower ho0 (below_size qBs11_4))
             have n1_:=Aside0.mk (blk_below (g:=Aa) (o:=.cells #[.int .i64 a0_0,.int .i64 a0_1,.slice A0_2 l0_2.length c0_2,.int .i64 a0_3,.int .u32 a0_4] 63 (0,0)) (qDs11_ Ab.out) hb)
             have n2_:=Aside0.mk (blk_below (g:=Ac) (o:=.cells #[.int .i64 a1_0,.int .i64 a1_1,.slice A1_2 l1_2.length c1_2,.int .i64 a1_3,.int .u32 a1_4] 63 (0,0)) (qDs11_ Ad.out) hb)
             have n3_:=Aside0.mk (blk_below (g:=Ae) (o:=.cells #[.int .i64 0,.int .i64 0,.slice none 0 0,.int .i64 0,.int .u32 0] 63 (0,0)) (qDs11_ Ak.out) hb)
             have n4_:=Aside0.mk (below_step qBs11_4 hb)
             clear Ab
             clear Ad
             clear Ak
             clear HB
             have As:=n0_
             have Ab:=n1_
             have Ad:=n2_
             have Ak:=n3_
             have HB:=n4_
             clear n0_ n1_ n2_ n3_ n4_
             (try clear hb)
             (try clear hb2)
             (try clear hk)
             (try clear hi)
             (try clear ho0)
             refine hK.out _ _ ⟨(blk_cell Ab.out 0).trans rfl,(blk_cell Ab.out 1).trans rfl,(blk_cell Ab.out 2).trans rfl,(blk_cell Ab.out 3).trans rfl,(blk_cell Ab.out 4).trans rfl,(blk_cell Ad.out 0).trans rfl,(blk_cell Ad.out 1).trans rfl,(blk_cell Ad.out 2).trans rfl,(blk_cell Ad.out 3).trans rfl,(blk_cell Ad.out 4).trans rfl⟩ (fun hHeld=>?_)
             clear hK K
             refine norm_ (a':=?_) ?_ ?_
             rotate_left
             ·show Act.put _ (some 18) _ = _
              simp only [Act.put,List.setIfInBounds_toArray,List.set_cons_zero,List.set_cons_succ,i64_w,i32_w]
              rfl
             exact norm_ (by first|(simp only [putAll,Act.put,List.setIfInBounds_toArray,List.set_cons_zero,List.set_cons_succ];done)|(simp only [putAll,Act.put,List.setIfInBounds_toArray,List.set_cons_zero,List.set_cons_succ];rfl)) (hJ1_4 (v195,Ae) _ ⟨hHeld,(by (with_reducible repeat (first|apply Kd.S_alloc|apply Kd.S_drewN|apply Kd.S_drew));exact As.out),(qDs11_ Ab.out),(qDs11_ Ad.out),(qDs11_ Ak.out),A0.out,Au.out,Ag.out,Ao.out,Ah.out,Ap.out,qBs11_4⟩)
            ·skip
             refine box_step ?hg (N:=8) ?hd (cs:=#[.int .i64 0,.int .i64 0,.slice none 0 0,.int .i64 0,.int .u32 0]) (t:=63) ?hr ?_;(case hd=>rfl);(case hg=>rfl);(case hr=>first|(go_simp;done)|(go_simp;rfl))
             intro Af hg w17 hbox hb
             have n0_:=Aside0.mk (blk_below (g:=Aa) (o:=.cells #[.int .i64 a0_0,.int .i64 a0_1,.slice A0_2 l0_2.length c0_2,.int .i64 a0_3,.int .u32 a0_4] 63 (0,0)) (qDs11_ Ab.out) hb)
             have n1_:=Aside0.mk (blk_below (g:=Ac) (o:=.cells #[.int .i64 a1_0,.int .i64 a1_1,.slice A1_2 l1_2.length c1_2,.int .i64 a1_3,.int .u32 a1_4] 63 (0,0)) (qDs11_ Ad.out) hb)
             have n2_:=Aside0.mk (blk_below (g:=Ae) (o:=.cells #[.int .i64 0,.int .i64 0,.slice none 0 0,.int .i64 0,.int .u32 0] 63 (0,0)) (qDs11_ Ak.out) hb)
             have n3_:=Aside0.mk (below_step qBs11_4 hb)
             have n4_:=Aside0.mk (hbox)
             have n5_:=Aside0.mk ((by rw [hg];exact (below_size qBs11_4) : w.heap.size ≤ Af))
             have n6_:=Aside0.mk ((by rw [hg];exact (below_size qBs11_4) : w.heap.size ≤ Af))
             have n7_:=Aside0.mk ((by rw [hg];exact Nat.ne_of_lt (blk_lt (g:=Aa) (o:=.cells #[.int .i64 a0_0,.int .i64 a0_1,.slice A0_2 l0_2.length c0_2,.int .i64 a0_3,.int .u32 a0_4] 63 (0,0)) (qDs11_ Ab.out)) : Aa ≠ Af))
             have n8_:=Aside0.mk ((by rw [hg];exact Nat.ne_of_gt (blk_lt (g:=Aa) (o:=.cells #[.int .i64 a0_0,.int .i64 a0_1,.slice A0_2 l0_2.length c0_2,.int .i64 a0_3,.int .u32 a0_4] 63 (0,0)) (qDs11_ Ab.out)) : Af ≠ Aa))
             have n9_:=Aside0.mk ((by rw [hg];exact Nat.ne_of_lt (blk_lt (g:=Ac) (o:=.cells #[.int .i64 a1_0,.int .i64 a1_1,.slice A1_2 l1_2.length c1_2,.int .i64 a1_3,.int .u32 a1_4] 63 (0,0)) (qDs11_ Ad.out)) : Ac ≠ Af))
             have n10_:=Aside0.mk ((by rw [hg];exact Nat.ne_of_gt (blk_lt (g:=Ac) (o:=.cells #[.int .i64 a1_0,.int .i64 a1_1,.slice A1_2 l1_2.length c1_2,.int .i64 a1_3,.int .u32 a1_4] 63 (0,0)) (qDs11_ Ad.out)) : Af ≠ Ac))
             have n11_:=Aside0.mk ((by rw [hg];exact Nat.ne_of_lt (blk_lt (g:=Ae) (o:=.cells #[.int .i64 0,.int .i64 0,.slice none 0 0,.int .i64 0,.int .u32 0] 63 (0,0)) (qDs11_ Ak.out)) : Ae ≠ Af))
             have n12_:=Aside0.mk ((by rw [hg];exact Nat.ne_of_gt (blk_lt (g:=Ae) (o:=.cells #[.int .i64 0,.int .i64 0,.slice none 0 0,.int .i64 0,.int .u32 0] 63 (0,0)) (qDs11_ Ak.out)) : Af ≠ Ae))
             clear Ab
             clear Ad
             clear Ak
             clear HB
             have Ab:=n0_
             have Ad:=n1_
             have Ak:=n2_
             have HB:=n3_
             have Al:=n4_
             have A1:=n5_
             have Av:=n6_
             have Ai:=n7_
             have Aq:=n8_
             have Aj:=n9_
             have Ar:=n10_
             have An:=n11_
             have Am:=n12_
             clear n0_ n1_ n2_ n3_ n4_ n5_ n6_ n7_ n8_ n9_ n10_ n11_ n12_
             clear hb hbox hg
             refine hK.out _ _ ⟨(blk_cell Ab.out 0).trans rfl,(blk_cell Ab.out 1).trans rfl,(blk_cell Ab.out 2).trans rfl,(blk_cell Ab.out 3).trans rfl,(blk_cell Ab.out 4).trans rfl,(blk_cell Ad.out 0).trans rfl,(blk_cell Ad.out 1).trans rfl,(blk_cell Ad.out 2).trans rfl,(blk_cell Ad.out 3).trans rfl,(blk_cell Ad.out 4).trans rfl⟩ (fun hHeld=>?_)
             clear hK K
             refine norm_ (a':=?_) ?_ ?_
             rotate_left
             ·show Act.put _ (some 8) _ = _
              simp only [Act.put,List.setIfInBounds_toArray,List.set_cons_zero,List.set_cons_succ,i64_w,i32_w]
              rfl
             exact norm_ (by first|(simp only [putAll,Act.put,List.setIfInBounds_toArray,List.set_cons_zero,List.set_cons_succ];done)|(simp only [putAll,Act.put,List.setIfInBounds_toArray,List.set_cons_zero,List.set_cons_succ];rfl)) (hJ4_5 (Ae,Af) _ ⟨hHeld,(qDs11_ Ab.out),(qDs11_ Ad.out),(qDs11_ Ak.out),(qDs11_ Al.out),A0.out,Au.out,Ag.out,Ao.out,Ah.out,Ap.out,Am.out,An.out,A1.out,Av.out,Ai.out,Aq.out,Aj.out,Ar.out,qBs11_7⟩)
          ·skip
           rintro v195 w16 ⟨hS_,h0_,h1_,h2_,h3_⟩
           have n0_ : Aside0 (Kd.S (Kd.slice 3 (Kd.int .i64)) 23 w16 w.heap.size (fun _=>True) v195 t194):=⟨h0_⟩
           have n1_ : Aside0 (w16.heap[Aa]? = some (.cells #[.int .i64 a0_0,.int .i64 a0_1,.slice A0_2 l0_2.length c0_2,.int .i64 a0_3,.int .u32 a0_4] 63 (0,0))):=⟨h1_⟩
           have n2_ : Aside0 (w16.heap[Ac]? = some (.cells #[.int .i64 a1_0,.int .i64 a1_1,.slice A1_2 l1_2.length c1_2,.int .i64 a1_3,.int .u32 a1_4] 63 (0,0))):=⟨h2_⟩
           have n3_ : Aside0 (Below w.heap.size w w16):=⟨h3_⟩
           clear Ab
           clear Ad
           clear HB
           clear h0_ h1_ h2_ h3_
           have As:=n0_
           have Ab:=n1_
           have Ad:=n2_
           have HB:=n3_
           clear n0_ n1_ n2_ n3_
           have hHeld : w16.cell? ⟨Aa,0,none⟩ = some (.int .i64 a0_0) ∧ w16.cell? ⟨Aa,1,none⟩ = some (.int .i64 a0_1) ∧ w16.cell? ⟨Aa,2,none⟩ = some (.slice A0_2 l0_2.length c0_2) ∧ w16.cell? ⟨Aa,3,none⟩ = some (.int .i64 a0_3) ∧ w16.cell? ⟨Aa,4,none⟩ = some (.int .u32 a0_4) ∧ w16.cell? ⟨Ac,0,none⟩ = some (.int .i64 a1_0) ∧ w16.cell? ⟨Ac,1,none⟩ = some (.int .i64 a1_1) ∧ w16.cell? ⟨Ac,2,none⟩ = some (.slice A1_2 l1_2.length c1_2) ∧ w16.cell? ⟨Ac,3,none⟩ = some (.int .i64 a1_3) ∧ w16.cell? ⟨Ac,4,none⟩ = some (.int .u32 a1_4):=hS_
           refine norm_ (a':=?_) ?_ ?_
           rotate_left
           ·simp only [putAll,Act.put,List.setIfInBounds_toArray,List.set_cons_zero,List.set_cons_succ]
            rfl
           refine three_ (i:=3) (j:=4) (k:=5) (Ni:=some 20) (Nj:=some 7) (Nk:=some 8) #[true,true,true,true,false,false,false,false] #[true,true,true,false,true,false,false,false] #[true,true,true,false,false,true,false,false] rfl rfl rfl rfl rfl rfl (three_of HT_.out (by kernel_rfl)) (by decide) (by decide) (by decide) (fun K hK=>?_) (fun K hK=>?_) (fun K hK=>?_)
           ·skip
            refine goes_ Try.func82 (by kernel_rfl) rfl #[.agg #[.int .i64 a1_0,.int .i64 a1_1,.slice A1_2 l1_2.length c1_2,.int .i64 a1_3,.int .u32 a1_4]] (by rfl) rfl rfl qAs11_8 ?_
            with_reducible refine (least_Small.calls k a1_0 a1_1 _ _ l1_2 a1_3 a1_4 A2 A4 Ax A7 A8 _ ?side1 ?side2 A6.out).mono ?_
            (case side1=>repeat (first|exact (Kd.C_below HR1_2.out HB.out)|(with_reducible refine Kd.C_alloc ?_ _)|(with_reducible refine Kd.C_drewN ?_ _)|(with_reducible refine Kd.C_drew ?_)))
            (case side2=>exact HC1_2.out)
            rintro e w17 ⟨v202,rfl,ho0,hb⟩
            refine ⟨_,rfl,?_⟩
            have n0_:=Aside0.mk (Kd.S_elder' (by (with_reducible repeat (first|apply Kd.S_alloc|apply Kd.S_drewN|apply Kd.S_drew));exact As.out) (Kd.S_base ho0) hb)
            have n1_:=Aside0.mk (Kd.S_lower (Kd.S_new' ho0 (Kd.S_lt (by (with_reducible repeat (first|apply Kd.S_alloc|apply Kd.S_drewN|apply Kd.S_drew));exact As.out))) (below_size qBs11_3))
            have n2_:=Aside0.mk (blk_below (g:=Aa) (o:=.cells #[.int .i64 a0_0,.int .i64 a0_1,.slice A0_2 l0_2.length c0_2,.int .i64 a0_3,.int .u32 a0_4] 63 (0,0)) (qDs11_ Ab.out) hb)
            have n3_:=Aside0.mk (blk_below (g:=Ac) (o:=.cells #[.int .i64 a1_0,.int .i64 a1_1,.slice A1_2 l1_2.length c1_2,.int .i64 a1_3,.int .u32 a1_4] 63 (0,0)) (qDs11_ Ad.out) hb)
            have n4_:=Aside0.mk (below_step qBs11_3 hb)
            clear As
            clear Ab
            clear Ad
            clear HB
            have As:=n0_
            have Aw:=n1_
            have Ab:=n2_
            have Ad:=n3_
            have HB:=n4_
            clear n0_ n1_ n2_ n3_ n4_
            (try clear hb)
            (try clear hb2)
            (try clear hk)
            (try clear hi)
            (try clear ho0)
            refine hK.out _ _ ⟨(blk_cell Ab.out 0).trans rfl,(blk_cell Ab.out 1).trans rfl,(blk_cell Ab.out 2).trans rfl,(blk_cell Ab.out 3).trans rfl,(blk_cell Ab.out 4).trans rfl,(blk_cell Ad.out 0).trans rfl,(blk_cell Ad.out 1).trans rfl,(blk_cell Ad.out 2).trans rfl,(blk_cell Ad.out 3).trans rfl,(blk_cell Ad.out 4).trans rfl⟩ (fun hHeld=>?_)
            clear hK K
            refine norm_ (a':=?_) ?_ ?_
            rotate_left
            ·show Act.put _ (some 20) _ = _
             simp only [Act.put,List.setIfInBounds_toArray,List.set_cons_zero,List.set_cons_succ,i64_w,i32_w]
             rfl
            exact norm_ (by first|(simp only [putAll,Act.put,List.setIfInBounds_toArray,List.set_cons_zero,List.set_cons_succ];done)|(simp only [putAll,Act.put,List.setIfInBounds_toArray,List.set_cons_zero,List.set_cons_succ];rfl)) (hJ1_3 (v195,v202) _ ⟨hHeld,(by (with_reducible repeat (first|apply Kd.S_alloc|apply Kd.S_drewN|apply Kd.S_drew));exact Kd.S_mono As.out (fun _ hk=>hk.2)),(by (with_reducible repeat (first|apply Kd.S_alloc|apply Kd.S_drewN|apply Kd.S_drew));exact Kd.S_mono Aw.out (fun _ hk=>hk.2)),(qDs11_ Ab.out),(qDs11_ Ad.out),qBs11_3⟩)
           ·skip
            refine box_step ?hg (N:=7) ?hd (cs:=#[.int .i64 0,.int .i64 0,.slice none 0 0,.int .i64 0,.int .u32 0]) (t:=63) ?hr ?_;(case hd=>rfl);(case hg=>rfl);(case hr=>first|(go_simp;done)|(go_simp;rfl))
            intro Ae hg w17 hbox hb
            have n0_:=Aside0.mk (Kd.S_below (by (with_reducible repeat (first|apply Kd.S_alloc|apply Kd.S_drewN|apply Kd.S_drew));exact As.out) hb)
            have n1_:=Aside0.mk (blk_below (g:=Aa) (o:=.cells #[.int .i64 a0_0,.int .i64 a0_1,.slice A0_2 l0_2.length c0_2,.int .i64 a0_3,.int .u32 a0_4] 63 (0,0)) (qDs11_ Ab.out) hb)
            have n2_:=Aside0.mk (blk_below (g:=Ac) (o:=.cells #[.int .i64 a1_0,.int .i64 a1_1,.slice A1_2 l1_2.length c1_2,.int .i64 a1_3,.int .u32 a1_4] 63 (0,0)) (qDs11_ Ad.out) hb)
            have n3_:=Aside0.mk (below_step qBs11_3 hb)
            have n4_:=Aside0.mk (hbox)
            have n5_:=Aside0.mk ((by rw [hg];exact (below_size qBs11_3) : w.heap.size ≤ Ae))
            have n6_:=Aside0.mk ((by rw [hg];exact (below_size qBs11_3) : w.heap.size ≤ Ae))
            have n7_:=Aside0.mk ((by rw [hg];exact Nat.ne_of_lt (blk_lt (g:=Aa) (o:=.cells #[.int .i64 a0_0,.int .i64 a0_1,.slice A0_2 l0_2.length c0_2,.int .i64 a0_3,.int .u32 a0_4] 63 (0,0)) (qDs11_ Ab.out)) : Aa ≠ Ae))
            have n8_:=Aside0.mk ((by rw [hg];exact Nat.ne_of_gt (blk_lt (g:=Aa) (o:=.cells #[.int .i64 a0_0,.int .i64 a0_1,.slice A0_2 l0_2.length c0_2,.int .i64 a0_3,.int .u32 a0_4] 63 (0,0)) (qDs11_ Ab.out)) : Ae ≠ Aa))
            have n9_:=Aside0.mk ((by rw [hg];exact Nat.ne_of_lt (blk_lt (g:=Ac) (o:=.cells #[.int .i64 a1_0,.int .i64 a1_1,.slice A1_2 l1_2.length c1_2,.int .i64 a1_3,.int .u32 a1_4] 63 (0,0)) (qDs11_ Ad.out)) : Ac ≠ Ae))
            have n10_:=Aside0.mk ((by rw [hg];exact Nat.ne_of_gt (blk_lt (g:=Ac) (o:=.cells #[.int .i64 a1_0,.int .i64 a1_1,.slice A1_2 l1_2.length c1_2,.int .i64 a1_3,.int .u32 a1_4] 63 (0,0)) (qDs11_ Ad.out)) : Ae ≠ Ac))
            clear As
            clear Ab
            clear Ad
            clear HB
            have As:=n0_
            have Ab:=n1_
            have Ad:=n2_
            have HB:=n3_
            have Ak:=n4_
            have A0:=n5_
            have Au:=n6_
            have Ag:=n7_
            have Ao:=n8_
            have Ah:=n9_
            have Ap:=n10_
            clear n0_ n1_ n2_ n3_ n4_ n5_ n6_ n7_ n8_ n9_ n10_
            clear hb hbox hg
            refine hK.out _ _ ⟨(blk_cell Ab.out 0).trans rfl,(blk_cell Ab.out 1).trans rfl,(blk_cell Ab.out 2).trans rfl,(blk_cell Ab.out 3).trans rfl,(blk_cell Ab.out 4).trans rfl,(blk_cell Ad.out 0).trans rfl,(blk_cell Ad.out 1).trans rfl,(blk_cell Ad.out 2).trans rfl,(blk_cell Ad.out 3).trans rfl,(blk_cell Ad.out 4).trans rfl⟩ (fun hHeld=>?_)
            clear hK K
            refine norm_ (a':=?_) ?_ ?_
            rotate_left
            ·show Act.put _ (some 7) _ = _
             simp only [Act.put,List.setIfInBounds_toArray,List.set_cons_zero,List.set_cons_succ,i64_w,i32_w]
             rfl
            exact norm_ (by first|(simp only [putAll,Act.put,List.setIfInBounds_toArray,List.set_cons_zero,List.set_cons_succ];done)|(simp only [putAll,Act.put,List.setIfInBounds_toArray,List.set_cons_zero,List.set_cons_succ];rfl)) (hJ1_4 (v195,Ae) _ ⟨hHeld,(by (with_reducible repeat (first|apply Kd.S_alloc|apply Kd.S_drewN|apply Kd.S_drew));exact As.out),(qDs11_ Ab.out),(qDs11_ Ad.out),(qDs11_ Ak.out),A0.out,Au.out,Ag.out,Ao.out,Ah.out,Ap.out,qBs11_4⟩)
           ·skip
            refine box_step ?hg (N:=8) ?hd (cs:=#[.int .i64 0,.int .i64 0,.slice none 0 0,.int .i64 0,.int .u32 0]) (t:=63) ?hr ?_;(case hd=>rfl);(case hg=>rfl);(case hr=>first|(go_simp;done)|(go_simp;rfl))
            intro Af hg w17 hbox hb
            have n0_:=Aside0.mk (Kd.S_below (by (with_reducible repeat (first|apply Kd.S_alloc|apply Kd.S_drewN|apply Kd.S_drew));exact As.out) hb)
            have n1_:=Aside0.mk (blk_below (g:=Aa) (o:=.cells #[.int .i64 a0_0,.int .i64 a0_1,.slice A0_2 l0_2.length c0_2,.int .i64 a0_3,.int .u32 a0_4] 63 (0,0)) (qDs11_ Ab.out) hb)
            have n2_:=Aside0.mk (blk_below (g:=Ac) (o:=.cells #[.int .i64 a1_0,.int .i64 a1_1,.slice A1_2 l1_2.length c1_2,.int .i64 a1_3,.int .u32 a1_4] 63 (0,0)) (qDs11_ Ad.out) hb)
            have n3_:=Aside0.mk (below_step qBs11_3 hb)
            have n4_:=Aside0.mk (hbox)
            have n5_:=Aside0.mk ((by rw [hg];exact (below_size qBs11_3) : w.heap.size ≤ Af))
            have n6_:=Aside0.mk ((by rw [hg];exact (below_size qBs11_3) : w.heap.size ≤ Af))
            have n7_:=Aside0.mk ((by rw [hg];exact Nat.ne_of_lt (blk_lt (g:=Aa) (o:=.cells #[.int .i64 a0_0,.int .i64 a0_1,.slice A0_2 l0_2.length c0_2,.int .i64 a0_3,.int .u32 a0_4] 63 (0,0)) (qDs11_ Ab.out)) : Aa ≠ Af))
            have n8_:=Aside0.mk ((by rw [hg];exact Nat.ne_of_gt (blk_lt (g:=Aa) (o:=.cells #[.int .i64 a0_0,.int .i64 a0_1,.slice A0_2 l0_2.length c0_2,.int .i64 a0_3,.int .u32 a0_4] 63 (0,0)) (qDs11_ Ab.out)) : Af ≠ Aa))
            have n9_:=Aside0.mk ((by rw [hg];exact Nat.ne_of_lt (blk_lt (g:=Ac) (o:=.cells #[.int .i64 a1_0,.int .i64 a1_1,.slice A1_2 l1_2.length c1_2,.int .i64 a1_3,.int .u32 a1_4] 63 (0,0)) (qDs11_ Ad.out)) : Ac ≠ Af))
            have n10_:=Aside0.mk ((by rw [hg];exact Nat.ne_of_gt (blk_lt (g:=Ac) (o:=.cells #[.int .i64 a1_0,.int .i64 a1_1,.slice A1_2 l1_2.length c1_2,.int .i64 a1_3,.int .u32 a1_4] 63 (0,0)) (qDs11_ Ad.out)) : Af ≠ Ac))
            clear As
            clear Ab
            clear Ad
            clear HB
            have As:=n0_
            have Ab:=n1_
            have Ad:=n2_
            have HB:=n3_
            have Al:=n4_
            have A1:=n5_
            have Av:=n6_
            have Ai:=n7_
            have Aq:=n8_
            have Aj:=n9_
            have Ar:=n10_
            clear n0_ n1_ n2_ n3_ n4_ n5_ n6_ n7_ n8_ n9_ n10_
            clear hb hbox hg
            refine hK.out _ _ ⟨(blk_cell Ab.out 0).trans rfl,(blk_cell Ab.out 1).trans rfl,(blk_cell Ab.out 2).trans rfl,(blk_cell Ab.out 3).trans rfl,(blk_cell Ab.out 4).trans rfl,(blk_cell Ad.out 0).trans rfl,(blk_cell Ad.out 1).trans rfl,(blk_cell Ad.out 2).trans rfl,(blk_cell Ad.out 3).trans rfl,(blk_cell Ad.out 4).trans rfl⟩ (fun hHeld=>?_)
            clear hK K
            refine norm_ (a':=?_) ?_ ?_
            rotate_left
            ·show Act.put _ (some 8) _ = _
             simp only [Act.put,List.setIfInBounds_toArray,List.set_cons_zero,List.set_cons_succ,i64_w,i32_w]
             rfl
            exact norm_ (by first|(simp only [putAll,Act.put,List.setIfInBounds_toArray,List.set_cons_zero,List.set_cons_succ];done)|(simp only [putAll,Act.put,List.setIfInBounds_toArray,List.set_cons_zero,List.set_cons_succ];rfl)) (hJ1_5 (v195,Af) _ ⟨hHeld,(by (with_reducible repeat (first|apply Kd.S_alloc|apply Kd.S_drewN|apply Kd.S_drew));exact As.out),(qDs11_ Ab.out),(qDs11_ Ad.out),(qDs11_ Al.out),A1.out,Av.out,Ai.out,Aq.out,Aj.out,Ar.out,qBs11_5⟩)
         ·skip
          rintro ⟨Ae,Af⟩ w17 ⟨hS_,h0_,h1_,h2_,h3_,h4_,h5_,h6_,h7_,h8_,h9_,h10_,h11_,h12_,h13_,h14_,h15_,h16_,h17_,h18_⟩
          have n0_ : Aside0 (w17.heap[Aa]? = some (.cells #[.int .i64 a0_0,.int .i64 a0_1,.slice A0_2 l0_2.length c0_2,.int .i64 a0_3,.int .u32 a0_4] 63 (0,0))):=⟨h0_⟩
          have n1_ : Aside0 (w17.heap[Ac]? = some (.cells #[.int .i64 a1_0,.int .i64 a1_1,.slice A1_2 l1_2.length c1_2,.int .i64 a1_3,.int .u32 a1_4] 63 (0,0))):=⟨h1_⟩
          have n2_ : Aside0 (w17.heap[Ae]? = some (.cells #[.int .i64 0,.int .i64 0,.slice none 0 0,.int .i64 0,.int .u32 0] 63 (0,0))):=⟨h2_⟩
          have n3_ : Aside0 (w17.heap[Af]? = some (.cells #[.int .i64 0,.int .i64 0,.slice none 0 0,.int .i64 0,.int .u32 0] 63 (0,0))):=⟨h3_⟩
          have n4_ : Aside0 (w.heap.size ≤ Ae):=⟨h4_⟩
          have n5_ : Aside0 (w.heap.size ≤ Ae):=⟨h5_⟩
          have n6_ : Aside0 (Aa ≠ Ae):=⟨h6_⟩
          have n7_ : Aside0 (Ae ≠ Aa):=⟨h7_⟩
          have n8_ : Aside0 (Ac ≠ Ae):=⟨h8_⟩
          have n9_ : Aside0 (Ae ≠ Ac):=⟨h9_⟩
          have n10_ : Aside0 (Af ≠ Ae):=⟨h10_⟩
          have n11_ : Aside0 (Ae ≠ Af):=⟨h11_⟩
          have n12_ : Aside0 (w.heap.size ≤ Af):=⟨h12_⟩
          have n13_ : Aside0 (w.heap.size ≤ Af):=⟨h13_⟩
          have n14_ : Aside0 (Aa ≠ Af):=⟨h14_⟩
          have n15_ : Aside0 (Af ≠ Aa):=⟨h15_⟩
          have n16_ : Aside0 (Ac ≠ Af):=⟨h16_⟩
          have n17_ : Aside0 (Af ≠ Ac):=⟨h17_⟩
          have n18_ : Aside0 (Below w.heap.size w w17):=⟨h18_⟩
          clear Ab
          clear Ad
          clear HB
          clear h0_ h1_ h2_ h3_ h4_ h5_ h6_ h7_ h8_ h9_ h10_ h11_ h12_ h13_ h14_ h15_ h16_ h17_ h18_
          have Ab:=n0_
          have Ad:=n1_
          have Ak:=n2_
          have Al:=n3_
          have A0:=n4_
          have Au:=n5_
          have Ag:=n6_
          have Ao:=n7_
          have Ah:=n8_
          have Ap:=n9_
          have Am:=n10_
          have An:=n11_
          have A1:=n12_
          have Av:=n13_
          have Ai:=n14_
          have Aq:=n15_
          have Aj:=n16_
          have Ar:=n17_
          have HB:=n18_
          clear n0_ n1_ n2_ n3_ n4_ n5_ n6_ n7_ n8_ n9_ n10_ n11_ n12_ n13_ n14_ n15_ n16_ n17_ n18_
          have hHeld : w17.cell? ⟨Aa,0,none⟩ = some (.int .i64 a0_0) ∧ w17.cell? ⟨Aa,1,none⟩ = some (.int .i64 a0_1) ∧ w17.cell? ⟨Aa,2,none⟩ = some (.slice A0_2 l0_2.length c0_2) ∧ w17.cell? ⟨Aa,3,none⟩ = some (.int .i64 a0_3) ∧ w17.cell? ⟨Aa,4,none⟩ = some (.int .u32 a0_4) ∧ w17.cell? ⟨Ac,0,none⟩ = some (.int .i64 a1_0) ∧ w17.cell? ⟨Ac,1,none⟩ = some (.int .i64 a1_1) ∧ w17.cell? ⟨Ac,2,none⟩ = some (.slice A1_2 l1_2.length c1_2) ∧ w17.cell? ⟨Ac,3,none⟩ = some (.int .i64 a1_3) ∧ w17.cell? ⟨Ac,4,none⟩ = some (.int .u32 a1_4):=hS_
          refine norm_ (a':=?_) ?_ ?_
          rotate_left
          ·simp only [putAll,Act.put,List.setIfInBounds_toArray,List.set_cons_zero,List.set_cons_succ]
           rfl
          refine one_ (i:=1) (N:=some 18) #[true,true,true,false,true,true,false,false] rfl rfl (one_of HT_.out (by kernel_rfl)) (by decide) (fun K hK=>?_)
          refine goes_ Try.func82 (by kernel_rfl) rfl #[.agg #[.int .i64 a0_0,.int .i64 a0_1,.slice A0_2 l0_2.length c0_2,.int .i64 a0_3,.int .u32 a0_4]] (by rfl) rfl rfl qAs11_8 ?_
          with_reducible refine (least_Small.calls k a0_0 a0_1 _ _ l0_2 a0_3 a0_4 t192 t193 t194 t197 t198 _ ?side1 ?side2 A5.out).mono ?_
          (case side1=>repeat (first|exact (Kd.C_below HR0_2.out HB.out)|(with_reducible refine Kd.C_alloc ?_ _)|(with_reducible refine Kd.C_drewN ?_ _)|(with_reducible refine Kd.C_drew ?_)))
          (case side2=>exact HC0_2.out)
          rintro e w18 ⟨v195,rfl,ho0,hb⟩
          refine ⟨_,rfl,?_⟩
          have n0_:=Aside0.mk (Kd.S_lower ho0 (below_size qBs11_7))
          have n1_:=Aside0.mk (blk_below (g:=Aa) (o:=.cells #[.int .i64 a0_0,.int .i64 a0_1,.slice A0_2 l0_2.length c0_2,.int .i64 a0_3,.int .u32 a0_4] 63 (0,0)) (qDs11_ Ab.out) hb)
          have n2_:=Aside0.mk (blk_below (g:=Ac) (o:=.cells #[.int .i64 a1_0,.int .i64 a1_1,.slice A1_2 l1_2.length c1_2,.int .i64 a1_3,.int .u32 a1_4] 63 (0,0)) (qDs11_ Ad.out) hb)
          have n3_:=Aside0.mk (blk_below (g:=Ae) (o:=.cells #[.int .i64 0,.int .i64 0,.slice none 0 0,.int .i64 0,.int .u32 0] 63 (0,0)) (qDs11_ Ak.out) hb)
          have n4_:=Aside0.mk (blk_below (g:=Af) (o:=.cells #[.int .i64 0,.int .i64 0,.slice none 0 0,.int .i64 0,.int .u32 0] 63 (0,0)) (qDs11_ Al.out) hb)
          have n5_:=Aside0.mk (below_step qBs11_7 hb)
          clear Ab
          clear Ad
          clear Ak
          clear Al
          clear HB
          have As:=n0_
          have Ab:=n1_
          have Ad:=n2_
          have Ak:=n3_
          have Al:=n4_
          have HB:=n5_
          clear n0_ n1_ n2_ n3_ n4_ n5_
          (try clear hb)
          (try clear hb2)
          (try clear hk)
          (try clear hi)
          (try clear ho0)
          refine hK.out _ _ ⟨(blk_cell Ab.out 0).trans rfl,(blk_cell Ab.out 1).trans rfl,(blk_cell Ab.out 2).trans rfl,(blk_cell Ab.out 3).trans rfl,(blk_cell Ab.out 4).trans rfl,(blk_cell Ad.out 0).trans rfl,(blk_cell Ad.out 1).trans rfl,(blk_cell Ad.out 2).trans rfl,(blk_cell Ad.out 3).trans rfl,(blk_cell Ad.out 4).trans rfl⟩ (fun hHeld=>?_)
          clear hK K
          refine norm_ (a':=?_) ?_ ?_
          rotate_left
          ·show Act.put _ (some 18) _ = _
           simp only [Act.put,List.setIfInBounds_toArray,List.set_cons_zero,List.set_cons_succ,i64_w,i32_w]
           rfl
          exact norm_ (by first|(simp only [putAll,Act.put,List.setIfInBounds_toArray,List.set_cons_zero,List.set_cons_succ];done)|(simp only [putAll,Act.put,List.setIfInBounds_toArray,List.set_cons_zero,List.set_cons_succ];rfl)) (hJ1_4_5 (v195,Ae,Af) _ ⟨hHeld,(by (with_reducible repeat (first|apply Kd.S_alloc|apply Kd.S_drewN|apply Kd.S_drew));exact As.out),(qDs11_ Ab.out),(qDs11_ Ad.out),(qDs11_ Ak.out),(qDs11_ Al.out),A0.out,Au.out,Ag.out,Ao.out,Ah.out,Ap.out,Am.out,An.out,A1.out,Av.out,Ai.out,Aq.out,Aj.out,Ar.out,qBs11_7⟩)
        ·skip
         rintro ⟨v195,Af⟩ w17 ⟨hS_,h0_,h1_,h2_,h3_,h4_,h5_,h6_,h7_,h8_,h9_,h10_⟩
         have n0_ : Aside0 (Kd.S (Kd.slice 3 (Kd.int .i64)) 23 w17 w.heap.size (fun _=>True) v195 t194):=⟨h0_⟩
         have n1_ : Aside0 (w17.heap[Aa]? = some (.cells #[.int .i64 a0_0,.int .i64 a0_1,.slice A0_2 l0_2.length c0_2,.int .i64 a0_3,.int .u32 a0_4] 63 (0,0))):=⟨h1_⟩
         have n2_ : Aside0 (w17.heap[Ac]? = some (.cells #[.int .i64 a1_0,.int .i64 a1_1,.slice A1_2 l1_2.length c1_2,.int .i64 a1_3,.int .u32 a1_4] 63 (0,0))):=⟨h2_⟩
         have n3_ : Aside0 (w17.heap[Af]? = some (.cells #[.int .i64 0,.int .i64 0,.slice none 0 0,.int .i64 0,.int .u32 0] 63 (0,0))):=⟨h3_⟩
         have n4_ : Aside0 (w.heap.size ≤ Af):=⟨h4_⟩
         have n5_ : Aside0 (w.heap.size ≤ Af):=⟨h5_⟩
         have n6_ : Aside0 (Aa ≠ Af):=⟨h6_⟩
         have n7_ : Aside0 (Af ≠ Aa):=⟨h7_⟩
         have n8_ : Aside0 (Ac ≠ Af):=⟨h8_⟩
         have n9_ : Aside0 (Af ≠ Ac):=⟨h9_⟩
         have n10_ : Aside0 (Below w.heap.size w w17):=⟨h10_⟩
         clear Ab
         clear Ad
         clear HB
         clear h0_ h1_ h2_ h3_ h4_ h5_ h6_ h7_ h8_ h9_ h10_
         have As:=n0_
         have Ab:=n1_
         have Ad:=n2_
         have Al:=n3_
         have A1:=n4_
         have Av:=n5_
         have Ai:=n6_
         have Aq:=n7_
         have Aj:=n8_
         have Ar:=n9_
         have HB:=n10_
         clear n0_ n1_ n2_ n3_ n4_ n5_ n6_ n7_ n8_ n9_ n10_
         have hHeld : w17.cell? ⟨Aa,0,none⟩ = some (.int .i64 a0_0) ∧ w17.cell? ⟨Aa,1,none⟩ = some (.int .i64 a0_1) ∧ w17.cell? ⟨Aa,2,none⟩ = some (.slice A0_2 l0_2.length c0_2) ∧ w17.cell? ⟨Aa,3,none⟩ = some (.int .i64 a0_3) ∧ w17.cell? ⟨Aa,4,none⟩ = some (.int .u32 a0_4) ∧ w17.cell? ⟨Ac,0,none⟩ = some (.int .i64 a1_0) ∧ w17.cell? ⟨Ac,1,none⟩ = some (.int .i64 a1_1) ∧ w17.cell? ⟨Ac,2,none⟩ = some (.slice A1_2 l1_2.length c1_2) ∧ w17.cell? ⟨Ac,3,none⟩ = some (.int .i64 a1_3) ∧ w17.cell? ⟨Ac,4,none⟩ = some (.int .u32 a1_4):=hS_
         refine norm_ (a':=?_) ?_ ?_
         rotate_left
         ·simp only [putAll,Act.put,List.setIfInBounds_toArray,List.set_cons_zero,List.set_cons_succ]
          rfl
         refine two_ (i:=3) (j:=4) (Ni:=some 20) (Nj:=some 7) #[true,true,true,true,false,true,false,false] #[true,true,true,false,true,true,false,false] rfl rfl rfl rfl (two_of HT_.out (by kernel_rfl)) (by decide) (by decide) (fun K hK=>?_) (fun K hK=>?_)
         ·skip
          refine goes_ Try.func82 (by kernel_rfl) rfl #[.agg #[.int .i64 a1_0,.int .i64 a1_1,.slice A1_2 l1_2.length c1_2,.int .i64 a1_3,.int .u32 a1_4]] (by rfl) rfl rfl qAs11_8 ?_
          with_reducible refine (least_Small.calls k a1_0 a1_1 _ _ l1_2 a1_3 a1_4 A2 A4 Ax A7 A8 _ ?side1 ?side2 A6.out).mono ?_
          (case side1=>repeat (first|exact (Kd.C_below HR1_2.out HB.out)|(with_reducible refine Kd.C_alloc ?_ _)|(with_reducible refine Kd.C_drewN ?_ _)|(with_reducible refine Kd.C_drew ?_)))
          (case side2=>exact HC1_2.out)
          rintro e w18 ⟨v202,rfl,ho0,hb⟩
          refine ⟨_,rfl,?_⟩
          have n0_:=Aside0.mk (Kd.S_elder' (by (with_reducible repeat (first|apply Kd.S_alloc|apply Kd.S_drewN|apply Kd.S_drew));exact As.out) (Kd.S_base ho0) hb)
          have n1_:=Aside0.mk (Kd.S_lower (Kd.S_new' ho0 (Kd.S_lt (by (with_reducible repeat (first|apply Kd.S_alloc|apply Kd.S_drewN|apply Kd.S_drew));exact As.out))) (below_size qBs11_5))
          have n2_:=Aside0.mk (blk_below (g:=Aa) (o:=.cells #[.int .i64 a0_0,.int .i64 a0_1,.slice A0_2 l0_2.length c0_2,.int .i64 a0_3,.int .u32 a0_4] 63 (0,0)) (qDs11_ Ab.out) hb)
          have n3_:=Aside0.mk (blk_below (g:=Ac) (o:=.cells #[.int .i64 a1_0,.int .i64 a1_1,.slice A1_2 l1_2.length c1_2,.int .i64 a1_3,.int .u32 a1_4] 63 (0,0)) (qDs11_ Ad.out) hb)
          have n4_:=Aside0.mk (blk_below (g:=Af) (o:=.cells #[.int .i64 0,.int .i64 0,.slice none 0 0,.int .i64 0,.int .u32 0] 63 (0,0)) (qDs11_ Al.out) hb)
          have n5_:=Aside0.mk (below_step qBs11_5 hb)
          clear As
          clear Ab
          clear Ad
          clear Al
          clear HB
          have As:=n0_
          have Aw:=n1_
          have Ab:=n2_
          have Ad:=n3_
          have Al:=n4_
          have HB:=n5_
          clear n0_ n1_ n2_ n3_ n4_ n5_
          (try clear hb)
          (try clear hb2)
          (try clear hk)
          (try clear hi)
          (try clear ho0)
          refine hK.out _ _ ⟨(blk_cell Ab.out 0).trans rfl,(blk_cell Ab.out 1).trans rfl,(blk_cell Ab.out 2).trans rfl,(blk_cell Ab.out 3).trans rfl,(blk_cell Ab.out 4).trans rfl,(blk_cell Ad.out 0).trans rfl,(blk_cell Ad.out 1).trans rfl,(blk_cell Ad.out 2).trans rfl,(blk_cell Ad.out 3).trans rfl,(blk_cell Ad.out 4).trans rfl⟩ (fun hHeld=>?_)
          clear hK K
          refine norm_ (a':=?_) ?_ ?_
          rotate_left
          ·show Act.put _ (some 20) _ = _
           simp only [Act.put,List.setIfInBounds_toArray,List.set_cons_zero,List.set_cons_succ,i64_w,i32_w]
           rfl
          exact norm_ (by first|(simp only [putAll,Act.put,List.setIfInBounds_toArray,List.set_cons_zero,List.set_cons_succ];done)|(simp only [putAll,Act.put,List.setIfInBounds_toArray,List.set_cons_zero,List.set_cons_succ];rfl)) (hJ1_3_5 (v195,v202,Af) _ ⟨hHeld,(by (with_reducible repeat (first|apply Kd.S_alloc|apply Kd.S_drewN|apply Kd.S_drew));exact Kd.S_mono As.out (fun _ hk=>hk.2)),(by (with_reducible repeat (first|apply Kd.S_alloc|apply Kd.S_drewN|apply Kd.S_drew));exact Kd.S_mono Aw.out (fun _ hk=>hk.2)),(qDs11_ Ab.out),(qDs11_ Ad.out),(qDs11_ Al.out),A1.out,Av.out,Ai.out,Aq.out,Aj.out,Ar.out,qBs11_5⟩)
         ·skip
          refine box_step ?hg (N:=7) ?hd (cs:=#[.int .i64 0,.int .i64 0,.slice none 0 0,.int .i64 0,.int .u32 0]) (t:=63) ?hr ?_;(case hd=>rfl);(case hg=>rfl);(case hr=>first|(go_simp;done)|(go_simp;rfl))
          intro Ae hg w18 hbox hb
          have n0_:=Aside0.mk (Kd.S_below (by (with_reducible repeat (first|apply Kd.S_alloc|apply Kd.S_drewN|apply Kd.S_drew));exact As.out) hb)
          have n1_:=Aside0.mk (blk_below (g:=Aa) (o:=.cells #[.int .i64 a0_0,.int .i64 a0_1,.slice A0_2 l0_2.length c0_2,.int .i64 a0_3,.int .u32 a0_4] 63 (0,0)) (qDs11_ Ab.out) hb)
          have n2_:=Aside0.mk (blk_below (g:=Ac) (o:=.cells #[.int .i64 a1_0,.int .i64 a1_1,.slice A1_2 l1_2.length c1_2,.int .i64 a1_3,.int .u32 a1_4] 63 (0,0)) (qDs11_ Ad.out) hb)
          have n3_:=Aside0.mk (blk_below (g:=Af) (o:=.cells #[.int .i64 0,.int .i64 0,.slice none 0 0,.int .i64 0,.int .u32 0] 63 (0,0)) (qDs11_ Al.out) hb)
          have n4_:=Aside0.mk (below_step qBs11_5 hb)
          have n5_:=Aside0.mk (hbox)
          have n6_:=Aside0.mk ((by rw [hg];exact (below_size qBs11_5) : w.heap.size ≤ Ae))
          have n7_:=Aside0.mk ((by rw [hg];exact (below_size qBs11_5) : w.heap.size ≤ Ae))
          have n8_:=Aside0.mk ((by rw [hg];exact Nat.ne_of_lt (blk_lt (g:=Aa) (o:=.cells #[.int .i64 a0_0,.int .i64 a0_1,.slice A0_2 l0_2.length c0_2,.int .i64 a0_3,.int .u32 a0_4] 63 (0,0)) (qDs11_ Ab.out)) : Aa ≠ Ae))
          have n9_:=Aside0.mk ((by rw [hg];exact Nat.ne_of_gt (blk_lt (g:=Aa) (o:=.cells #[.int .i64 a0_0,.int .i64 a0_1,.slice A0_2 l0_2.length c0_2,.int .i64 a0_3,.int .u32 a0_4] 63 (0,0)) (qDs11_ Ab.out)) : Ae ≠ Aa))
          have n10_:=Aside0.mk ((by rw [hg];exact Nat.ne_of_lt (blk_lt (g:=Ac) (o:=.cells #[.int .i64 a1_0,.int .i64 a1_1,.slice A1_2 l1_2.length c1_2,.int .i64 a1_3,.int .u32 a1_4] 63 (0,0)) (qDs11_ Ad.out)) : Ac ≠ Ae))
          have n11_:=Aside0.mk ((by rw [hg];exact Nat.ne_of_gt (blk_lt (g:=Ac) (o:=.cells #[.int .i64 a1_0,.int .i64 a1_1,.slice A1_2 l1_2.length c1_2,.int .i64 a1_3,.int .u32 a1_4] 63 (0,0)) (qDs11_ Ad.out)) : Ae ≠ Ac))
          have n12_:=Aside0.mk ((by rw [hg];exact Nat.ne_of_lt (blk_lt (g:=Af) (o:=.cells #[.int .i64 0,.int .i64 0,.slice none 0 0,.int .i64 0,.int .u32 0] 63 (0,0)) (qDs11_ Al.out)) : Af ≠ Ae))
          have n13_:=Aside0.mk ((by rw [hg];exact Nat.ne_of_gt (blk_lt (g:=Af) (o:=.cells #[.int .i64 0,.int .i64 0,.slice none 0 0,.int .i64 0,.int .u32 0] 63 (0,0)) (qDs11_ Al.out)) : Ae ≠ Af))
          clear As
          clear Ab
          clear Ad
          clear Al
          clear HB
          have As:=n0_
          have Ab:=n1_
          have Ad:=n2_
          have Al:=n3_
          have HB:=n4_
          have Ak:=n5_
          have A0:=n6_
          have Au:=n7_
          have Ag:=n8_
          have Ao:=n9_
          have Ah:=n10_
          have Ap:=n11_
          have Am:=n12_
          have An:=n13_
          clear n0_ n1_ n2_ n3_ n4_ n5_ n6_ n7_ n8_ n9_ n10_ n11_ n12_ n13_
          clear hb hbox hg
          refine hK.out _ _ ⟨(blk_cell Ab.out 0).trans rfl,(blk_cell Ab.out 1).trans rfl,(blk_cell Ab.out 2).trans rfl,(blk_cell Ab.out 3).trans rfl,(blk_cell Ab.out 4).trans rfl,(blk_cell Ad.out 0).trans rfl,(blk_cell Ad.out 1).trans rfl,(blk_cell Ad.out 2).trans rfl,(blk_cell Ad.out 3).trans rfl,(blk_cell Ad.out 4).trans rfl⟩ (fun hHeld=>?_)
          clear hK K
          refine norm_ (a':=?_) ?_ ?_
          rotate_left
          ·show Act.put _ (some 7) _ = _
           simp only [Act.put,List.setIfInBounds_toArray,List.set_cons_zero,List.set_cons_succ,i64_w,i32_w]
           rfl
          exact norm_ (by first|(simp only [putAll,Act.put,List.setIfInBounds_toArray,List.set_cons_zero,List.set_cons_succ];done)|(simp only [putAll,Act.put,List.setIfInBounds_toArray,List.set_cons_zero,List.set_cons_succ];rfl)) (hJ1_4_5 (v195,Ae,Af) _ ⟨hHeld,(by (with_reducible repeat (first|apply Kd.S_alloc|apply Kd.S_drewN|apply Kd.S_drew));exact As.out),(qDs11_ Ab.out),(qDs11_ Ad.out),(qDs11_ Ak.out),(qDs11_ Al.out),A0.out,Au.out,Ag.out,Ao.out,Ah.out,Ap.out,Am.out,An.out,A1.out,Av.out,Ai.out,Aq.out,Aj.out,Ar.out,qBs11_6⟩)
       ·skip
        rintro ⟨v195,Ae⟩ w17 ⟨hS_,h0_,h1_,h2_,h3_,h4_,h5_,h6_,h7_,h8_,h9_,h10_⟩
        have n0_ : Aside0 (Kd.S (Kd.slice 3 (Kd.int .i64)) 23 w17 w.heap.size (fun _=>True) v195 t194):=⟨h0_⟩
        have n1_ : Aside0 (w17.heap[Aa]? = some (.cells #[.int .i64 a0_0,.int .i64 a0_1,.slice A0_2 l0_2.length c0_2,.int .i64 a0_3,.int .u32 a0_4] 63 (0,0))):=⟨h1_⟩
        have n2_ : Aside0 (w17.heap[Ac]? = some (.cells #[.int .i64 a1_0,.int .i64 a1_1,.slice A1_2 l1_2.length c1_2,.int .i64 a1_3,.int .u32 a1_4] 63 (0,0))):=⟨h2_⟩
        have n3_ : Aside0 (w17.heap[Ae]? = some (.cells #[.int .i64 0,.int .i64 0,.slice none 0 0,.int .i64 0,.int .u32 0] 63 (0,0))):=⟨h3_⟩
        have n4_ : Aside0 (w.heap.size ≤ Ae):=⟨h4_⟩
        have n5_ : Aside0 (w.heap.size ≤ Ae):=⟨h5_⟩
        have n6_ : Aside0 (Aa ≠ Ae):=⟨h6_⟩
        have n7_ : Aside0 (Ae ≠ Aa):=⟨h7_⟩
        have n8_ : Aside0 (Ac ≠ Ae):=⟨h8_⟩
        have n9_ : Aside0 (Ae ≠ Ac):=⟨h9_⟩
        have n10_ : Aside0 (Below w.heap.size w w17):=⟨h10_⟩
        clear Ab
        clear Ad
        clear HB
        clear h0_ h1_ h2_ h3_ h4_ h5_ h6_ h7_ h8_ h9_ h10_
        have As:=n0_
        have Ab:=n1_
        have Ad:=n2_
        have Ak:=n3_
        have A0:=n4_
        have Au:=n5_
        have Ag:=n6_
        have Ao:=n7_
        have Ah:=n8_
        have Ap:=n9_
        have HB:=n10_
        clear n0_ n1_ n2_ n3_ n4_ n5_ n6_ n7_ n8_ n9_ n10_
        have hHeld : w17.cell? ⟨Aa,0,none⟩ = some (.int .i64 a0_0) ∧ w17.cell? ⟨Aa,1,none⟩ = some (.int .i64 a0_1) ∧ w17.cell? ⟨Aa,2,none⟩ = some (.slice A0_2 l0_2.length c0_2) ∧ w17.cell? ⟨Aa,3,none⟩ = some (.int .i64 a0_3) ∧ w17.cell? ⟨Aa,4,none⟩ = some (.int .u32 a0_4) ∧ w17.cell? ⟨Ac,0,none⟩ = some (.int .i64 a1_0) ∧ w17.cell? ⟨Ac,1,none⟩ = some (.int .i64 a1_1) ∧ w17.cell? ⟨Ac,2,none⟩ = some (.slice A1_2 l1_2.length c1_2) ∧ w17.cell? ⟨Ac,3,none⟩ = some (.int .i64 a1_3) ∧ w17.cell? ⟨Ac,4,none⟩ = some (.int .u32 a1_4):=hS_
        refine norm_ (a':=?_) ?_ ?_
        rotate_left
        ·simp only [putAll,Act.put,List.setIfInBounds_toArray,List.set_cons_zero,List.set_cons_succ]
         rfl
        refine two_ (i:=3) (j:=5) (Ni:=some 20) (Nj:=some 8) #[true,true,true,true,true,false,false,false] #[true,true,true,false,true,true,false,false] rfl rfl rfl rfl (two_of HT_.out (by kernel_rfl)) (by decide) (by decide) (fun K hK=>?_) (fun K hK=>?_)
        ·skip
         refine goes_ Try.func82 (by kernel_rfl) rfl #[.agg #[.int .i64 a1_0,.int .i64 a1_1,.slice A1_2 l1_2.length c1_2,.int .i64 a1_3,.int .u32 a1_4]] (by rfl) rfl rfl qAs11_8 ?_
         with_reducible refine (least_Small.calls k a1_0 a1_1 _ _ l1_2 a1_3 a1_4 A2 A4 Ax A7 A8 _ ?side1 ?side2 A6.out).mono ?_
         (case side1=>repeat (first|exact (Kd.C_below HR1_2.out HB.out)|(with_reducible refine Kd.C_alloc ?_ _)|(with_reducible refine Kd.C_drewN ?_ _)|(with_reducible refine Kd.C_drew ?_)))
         (case side2=>exact HC1_2.out)
         rintro e w18 ⟨v202,rfl,ho0,hb⟩
         refine ⟨_,rfl,?_⟩
         have n0_:=Aside0.mk (Kd.S_elder' (by (with_reducible repeat (first|apply Kd.S_alloc|apply Kd.S_drewN|apply Kd.S_drew));exact As.out) (Kd.S_base ho0) hb)
         have n1_:=Aside0.mk (Kd.S_lower (Kd.S_new' ho0 (Kd.S_lt (by (with_reducible repeat (first|apply Kd.S_alloc|apply Kd.S_drewN|apply Kd.S_drew));exact As.out))) (below_size qBs11_4))
         have n2_:=Aside0.mk (blk_below (g:=Aa) (o:=.cells #[.int .i64 a0_0,.int .i64 a0_1,.slice A0_2 l0_2.length c0_2,.int .i64 a0_3,.int .u32 a0_4] 63 (0,0)) (qDs11_ Ab.out) hb)
         have n3_:=Aside0.mk (blk_below (g:=Ac) (o:=.cells #[.int .i64 a1_0,.int .i64 a1_1,.slice A1_2 l1_2.length c1_2,.int .i64 a1_3,.int .u32 a1_4] 63 (0,0)) (qDs11_ Ad.out) hb)
         have n4_:=Aside0.mk (blk_below (g:=Ae) (o:=.cells #[.int .i64 0,.int .i64 0,.slice none 0 0,.int .i64 0,.int .u32 0] 63 (0,0)) (qDs11_ Ak.out) hb)
         have n5_:=Aside0.mk (below_step qBs11_4 hb)
         clear As
         clear Ab
         clear Ad
         clear Ak
         clear HB
         have As:=n0_
         have Aw:=n1_
         have Ab:=n2_
         have Ad:=n3_
         have Ak:=n4_
         have HB:=n5_
         clear n0_ n1_ n2_ n3_ n4_ n5_
         (try clear hb)
         (try clear hb2)
         (try clear hk)
         (try clear hi)
         (try clear ho0)
         refine hK.out _ _ ⟨(blk_cell Ab.out 0).trans rfl,(blk_cell Ab.out 1).trans rfl,(blk_cell Ab.out 2).trans rfl,(blk_cell Ab.out 3).trans rfl,(blk_cell Ab.out 4).trans rfl,(blk_cell Ad.out 0).trans rfl,(blk_cell Ad.out 1).trans rfl,(blk_cell Ad.out 2).trans rfl,(blk_cell Ad.out 3).trans rfl,(blk_cell Ad.out 4).trans rfl⟩ (fun hHeld=>?_)
         clear hK K
         refine norm_ (a':=?_) ?_ ?_
         rotate_left
         ·show Act.put _ (some 20) _ = _
          simp only [Act.put,List.setIfInBounds_toArray,List.set_cons_zero,List.set_cons_succ,i64_w,i32_w]
          rfl
         exact norm_ (by first|(simp only [putAll,Act.put,List.setIfInBounds_toArray,List.set_cons_zero,List.set_cons_succ];done)|(simp only [putAll,Act.put,List.setIfInBounds_toArray,List.set_cons_zero,List.set_cons_succ];rfl)) (hJ1_3_4 (v195,v202,Ae) _ ⟨hHeld,(by (with_reducible repeat (first|apply Kd.S_alloc|apply Kd.S_drewN|apply Kd.S_drew));exact Kd.S_mono As.out (fun _ hk=>hk.2)),(by (with_reducible repeat (first|apply Kd.S_alloc|apply Kd.S_drewN|apply Kd.S_drew));exact Kd.S_mono Aw.out (fun _ hk=>hk.2)),(qDs11_ Ab.out),(qDs11_ Ad.out),(qDs11_ Ak.out),A0.out,Au.out,Ag.out,Ao.out,Ah.out,Ap.out,qBs11_4⟩)
        ·skip
         refine box_step ?hg (N:=8) ?hd (cs:=#[.int .i64 0,.int .i64 0,.slice none 0 0,.int .i64 0,.int .u32 0]) (t:=63) ?hr ?_;(case hd=>rfl);(case hg=>rfl);(case hr=>first|(go_simp;done)|(go_simp;rfl))
         intro Af hg w18 hbox hb
         have n0_:=Aside0.mk (Kd.S_below (by (with_reducible repeat (first|apply Kd.S_alloc|apply Kd.S_drewN|apply Kd.S_drew));exact As.out) hb)
         have n1_:=Aside0.mk (blk_below (g:=Aa) (o:=.cells #[.int .i64 a0_0,.int .i64 a0_1,.slice A0_2 l0_2.length c0_2,.int .i64 a0_3,.int .u32 a0_4] 63 (0,0)) (qDs11_ Ab.out) hb)
         have n2_:=Aside0.mk (blk_below (g:=Ac) (o:=.cells #[.int .i64 a1_0,.int .i64 a1_1,.slice A1_2 l1_2.length c1_2,.int .i64 a1_3,.int .u32 a1_4] 63 (0,0)) (qDs11_ Ad.out) hb)
         have n3_:=Aside0.mk (blk_below (g:=Ae) (o:=.cells #[.int .i64 0,.int .i64 0,.slice none 0 0,.int .i64 0,.int .u32 0] 63 (0,0)) (qDs11_ Ak.out) hb)
         have n4_:=Aside0.mk (below_step qBs11_4 hb)
         have n5_:=Aside0.mk (hbox)
         have n6_:=Aside0.mk ((by rw [hg];exact (below_size qBs11_4) : w.heap.size ≤ Af))
         have n7_:=Aside0.mk ((by rw [hg];exact (below_size qBs11_4) : w.heap.size ≤ Af))
         have n8_:=Aside0.mk ((by rw [hg];exact Nat.ne_of_lt (blk_lt (g:=Aa) (o:=.cells #[.int .i64 a0_0,.int .i64 a0_1,.slice A0_2 l0_2.length c0_2,.int .i64 a0_3,.int .u32 a0_4] 63 (0,0)) (qDs11_ Ab.out)) : Aa ≠ Af))
         have n9_:=Aside0.mk ((by rw [hg];exact Nat.ne_of_gt (blk_lt (g:=Aa) (o:=.cells #[.int .i64 a0_0,.int .i64 a0_1,.slice A0_2 l0_2.length c0_2,.int .i64 a0_3,.int .u32 a0_4] 63 (0,0)) (qDs11_ Ab.out)) : Af ≠ Aa))
         have n10_:=Aside0.mk ((by rw [hg];exact Nat.ne_of_lt (blk_lt (g:=Ac) (o:=.cells #[.int .i64 a1_0,.int .i64 a1_1,.slice A1_2 l1_2.length c1_2,.int .i64 a1_3,.int .u32 a1_4] 63 (0,0)) (qDs11_ Ad.out)) : Ac ≠ Af))
         have n11_:=Aside0.mk ((by rw [hg];exact Nat.ne_of_gt (blk_lt (g:=Ac) (o:=.cells #[.int .i64 a1_0,.int .i64 a1_1,.slice A1_2 l1_2.length c1_2,.int .i64 a1_3,.int .u32 a1_4] 63 (0,0)) (qDs11_ Ad.out)) : Af ≠ Ac))
         have n12_:=Aside0.mk ((by rw [hg];exact Nat.ne_of_lt (blk_lt (g:=Ae) (o:=.cells #[.int .i64 0,.int .i64 0,.slice none 0 0,.int .i64 0,.int .u32 0] 63 (0,0)) (qDs11_ Ak.out)) : Ae ≠ Af))
         have n13_:=Aside0.mk ((by rw [hg];exact Nat.ne_of_gt (blk_lt (g:=Ae) (o:=.cells #[.int .i64 0,.int .i64 0,.slice none 0 0,.int .i64 0,.int .u32 0] 63 (0,0)) (qDs11_ Ak.out)) : Af ≠ Ae))
         clear As
         clear Ab
         clear Ad
         clear Ak
         clear HB
         have As:=n0_
         have Ab:=n1_
         have Ad:=n2_
         have Ak:=n3_
         have HB:=n4_
         have Al:=n5_
         have A1:=n6_
         have Av:=n7_
         have Ai:=n8_
         have Aq:=n9_
         have Aj:=n10_
         have Ar:=n11_
         have An:=n12_
         have Am:=n13_
         clear n0_ n1_ n2_ n3_ n4_ n5_ n6_ n7_ n8_ n9_ n10_ n11_ n12_ n13_
         clear hb hbox hg
         refine hK.out _ _ ⟨(blk_cell Ab.out 0).trans rfl,(blk_cell Ab.out 1).trans rfl,(blk_cell Ab.out 2).trans rfl,(blk_cell Ab.out 3).trans rfl,(blk_cell Ab.out 4).trans rfl,(blk_cell Ad.out 0).trans rfl,(blk_cell Ad.out 1).trans rfl,(blk_cell Ad.out 2).trans rfl,(blk_cell Ad.out 3).trans rfl,(blk_cell Ad.out 4).trans rfl⟩ (fun hHeld=>?_)
         clear hK K
         refine norm_ (a':=?_) ?_ ?_
         rotate_left
         ·show Act.put _ (some 8) _ = _
          simp only [Act.put,List.setIfInBounds_toArray,List.set_cons_zero,List.set_cons_succ,i64_w,i32_w]
          rfl
         exact norm_ (by first|(simp only [putAll,Act.put,List.setIfInBounds_toArray,List.set_cons_zero,List.set_cons_succ];done)|(simp only [putAll,Act.put,List.setIfInBounds_toArray,List.set_cons_zero,List.set_cons_succ];rfl)) (hJ1_4_5 (v195,Ae,Af) _ ⟨hHeld,(by (with_reducible repeat (first|apply Kd.S_alloc|apply Kd.S_drewN|apply Kd.S_drew));exact As.out),(qDs11_ Ab.out),(qDs11_ Ad.out),(qDs11_ Ak.out),(qDs11_ Al.out),A0.out,Au.out,Ag.out,Ao.out,Ah.out,Ap.out,Am.out,An.out,A1.out,Av.out,Ai.out,Aq.out,Aj.out,Ar.out,qBs11_7⟩)
      ·skip
       rintro ⟨v195,v202⟩ w17 ⟨hS_,h0_,h1_,h2_,h3_,h4_⟩
       have n0_ : Aside0 (Kd.S (Kd.slice 3 (Kd.int .i64)) 23 w17 w.heap.size (fun k_=>some k_ ≠ (v202 : Value).ownBlock) v195 t194):=⟨h0_⟩
       have n1_ : Aside0 (Kd.S (Kd.slice 3 (Kd.int .i64)) 23 w17 w.heap.size (fun k_=>some k_ ≠ (v195 : Value).ownBlock) v202 Ax):=⟨h1_⟩
       have n2_ : Aside0 (w17.heap[Aa]? = some (.cells #[.int .i64 a0_0,.int .i64 a0_1,.slice A0_2 l0_2.length c0_2,.int .i64 a0_3,.int .u32 a0_4] 63 (0,0))):=⟨h2_⟩
       have n3_ : Aside0 (w17.heap[Ac]? = some (.cells #[.int .i64 a1_0,.int .i64 a1_1,.slice A1_2 l1_2.length c1_2,.int .i64 a1_3,.int .u32 a1_4] 63 (0,0))):=⟨h3_⟩
       have n4_ : Aside0 (Below w.heap.size w w17):=⟨h4_⟩
       clear Ab
       clear Ad
       clear HB
       clear h0_ h1_ h2_ h3_ h4_
       have As:=n0_
       have Aw:=n1_
       have Ab:=n2_
       have Ad:=n3_
       have HB:=n4_
       clear n0_ n1_ n2_ n3_ n4_
       have hHeld : w17.cell? ⟨Aa,0,none⟩ = some (.int .i64 a0_0) ∧ w17.cell? ⟨Aa,1,none⟩ = some (.int .i64 a0_1) ∧ w17.cell? ⟨Aa,2,none⟩ = some (.slice A0_2 l0_2.length c0_2) ∧ w17.cell? ⟨Aa,3,none⟩ = some (.int .i64 a0_3) ∧ w17.cell? ⟨Aa,4,none⟩ = some (.int .u32 a0_4) ∧ w17.cell? ⟨Ac,0,none⟩ = some (.int .i64 a1_0) ∧ w17.cell? ⟨Ac,1,none⟩ = some (.int .i64 a1_1) ∧ w17.cell? ⟨Ac,2,none⟩ = some (.slice A1_2 l1_2.length c1_2) ∧ w17.cell? ⟨Ac,3,none⟩ = some (.int .i64 a1_3) ∧ w17.cell? ⟨Ac,4,none⟩ = some (.int .u32 a1_4):=hS_
       refine norm_ (a':=?_) ?_ ?_
       rotate_left
       ·simp only [putAll,Act.put,List.setIfInBounds_toArray,List.set_cons_zero,List.set_cons_succ]
        rfl
       refine two_ (i:=4) (j:=5) (Ni:=some 7) (Nj:=some 8) #[true,true,true,true,true,false,false,false] #[true,true,true,true,false,true,false,false] rfl rfl rfl rfl (two_of HT_.out (by kernel_rfl)) (by decide) (by decide) (fun K hK=>?_) (fun K hK=>?_)
       ·skip
        refine box_step ?hg (N:=7) ?hd (cs:=#[.int .i64 0,.int .i64 0,.slice none 0 0,.int .i64 0,.int .u32 0]) (t:=63) ?hr ?_;(case hd=>rfl);(case hg=>rfl);(case hr=>first|(go_simp;done)|(go_simp;rfl))
        intro Ae hg w18 hbox hb
        have n0_:=Aside0.mk (Kd.S_below (by (with_reducible repeat (first|apply Kd.S_alloc|apply Kd.S_drewN|apply Kd.S_drew));exact As.out) hb)
        have n1_:=Aside0.mk (Kd.S_below (by (with_reducible repeat (first|apply Kd.S_alloc|apply Kd.S_drewN|apply Kd.S_drew));exact Aw.out) hb)
        have n2_:=Aside0.mk (blk_below (g:=Aa) (o:=.cells #[.int .i64 a0_0,.int .i64 a0_1,.slice A0_2 l0_2.length c0_2,.int .i64 a0_3,.int .u32 a0_4] 63 (0,0)) (qDs11_ Ab.out) hb)
        have n3_:=Aside0.mk (blk_below (g:=Ac) (o:=.cells #[.int .i64 a1_0,.int .i64 a1_1,.slice A1_2 l1_2.length c1_2,.int .i64 a1_3,.int .u32 a1_4] 63 (0,0)) (qDs11_ Ad.out) hb)
        have n4_:=Aside0.mk (below_step qBs11_3 hb)
        have n5_:=Aside0.mk (hbox)
        have n6_:=Aside0.mk ((by rw [hg];exact (below_size qBs11_3) : w.heap.size ≤ Ae))
        have n7_:=Aside0.mk ((by rw [hg];exact (below_size qBs11_3) : w.heap.size ≤ Ae))
        have n8_:=Aside0.mk ((by rw [hg];exact Nat.ne_of_lt (blk_lt (g:=Aa) (o:=.cells #[.int .i64 a0_0,.int .i64 a0_1,.slice A0_2 l0_2.length c0_2,.int .i64 a0_3,.int .u32 a0_4] 63 (0,0)) (qDs11_ Ab.out)) : Aa ≠ Ae))
        have n9_:=Aside0.mk ((by rw [hg];exact Nat.ne_of_gt (blk_lt (g:=Aa) (o:=.cells #[.int .i64 a0_0,.int .i64 a0_1,.slice A0_2 l0_2.length c0_2,.int .i64 a0_3,.int .u32 a0_4] 63 (0,0)) (qDs11_ Ab.out)) : Ae ≠ Aa))
        have n10_:=Aside0.mk ((by rw [hg];exact Nat.ne_of_lt (blk_lt (g:=Ac) (o:=.cells #[.int .i64 a1_0,.int .i64 a1_1,.slice A1_2 l1_2.length c1_2,.int .i64 a1_3,.int .u32 a1_4] 63 (0,0)) (qDs11_ Ad.out)) : Ac ≠ Ae))
        have n11_:=Aside0.mk ((by rw [hg];exact Nat.ne_of_gt (blk_lt (g:=Ac) (o:=.cells #[.int .i64 a1_0,.int .i64 a1_1,.slice A1_2 l1_2.length c1_2,.int .i64 a1_3,.int .u32 a1_4] 63 (0,0)) (qDs11_ Ad.out)) : Ae ≠ Ac))
        clear As
        clear Aw
        clear Ab
        clear Ad
        clear HB
        have As:=n0_
        have Aw:=n1_
        have Ab:=n2_
        have Ad:=n3_
        have HB:=n4_
        have Ak:=n5_
        have A0:=n6_
        have Au:=n7_
        have Ag:=n8_
        have Ao:=n9_
        have Ah:=n10_
        have Ap:=n11_
        clear n0_ n1_ n2_ n3_ n4_ n5_ n6_ n7_ n8_ n9_ n10_ n11_
        clear hb hbox hg
        refine hK.out _ _ ⟨(blk_cell Ab.out 0).trans rfl,(blk_cell Ab.out 1).trans rfl,(blk_cell Ab.out 2).trans rfl,(blk_cell Ab.out 3).trans rfl,(blk_cell Ab.out 4).trans rfl,(blk_cell Ad.out 0).trans rfl,(blk_cell Ad.out 1).trans rfl,(blk_cell Ad.out 2).trans rfl,(blk_cell Ad.out 3).trans rfl,(blk_cell Ad.out 4).trans rfl⟩ (fun hHeld=>?_)
        clear hK K
        refine norm_ (a':=?_) ?_ ?_
        rotate_left
        ·show Act.put _ (some 7) _ = _
         simp only [Act.put,List.setIfInBounds_toArray,List.set_cons_zero,List.set_cons_succ,i64_w,i32_w]
         rfl
        exact norm_ (by first|(simp only [putAll,Act.put,List.setIfInBounds_toArray,List.set_cons_zero,List.set_cons_succ];done)|(simp only [putAll,Act.put,List.setIfInBounds_toArray,List.set_cons_zero,List.set_cons_succ];rfl)) (hJ1_3_4 (v195,v202,Ae) _ ⟨hHeld,(by (with_reducible repeat (first|apply Kd.S_alloc|apply Kd.S_drewN|apply Kd.S_drew));exact As.out),(by (with_reducible repeat (first|apply Kd.S_alloc|apply Kd.S_drewN|apply Kd.S_drew));exact Aw.out),(qDs11_ Ab.out),(qDs11_ Ad.out),(qDs11_ Ak.out),A0.out,Au.out,Ag.out,Ao.out,Ah.out,Ap.out,qBs11_4⟩)
       ·skip
        refine box_step ?hg (N:=8) ?hd (cs:=#[.int .i64 0,.int .i64 0,.slice none 0 0,.int .i64 0,.int .u32 0]) (t:=63) ?hr ?_;(case hd=>rfl);(case hg=>rfl);(case hr=>first|(go_simp;done)|(go_simp;rfl))
        intro Af hg w18 hbox hb
        have n0_:=Aside0.mk (Kd.S_below (by (with_reducible repeat (first|apply Kd.S_alloc|apply Kd.S_drewN|apply Kd.S_drew));exact As.out) hb)
        have n1_:=Aside0.mk (Kd.S_below (by (with_reducible repeat (first|apply Kd.S_alloc|apply Kd.S_drewN|apply Kd.S_drew));exact Aw.out) hb)
        have n2_:=Aside0.mk (blk_below (g:=Aa) (o:=.cells #[.int .i64 a0_0,.int .i64 a0_1,.slice A0_2 l0_2.length c0_2,.int .i64 a0_3,.int .u32 a0_4] 63 (0,0)) (qDs11_ Ab.out) hb)
        have n3_:=Aside0.mk (blk_below (g:=Ac) (o:=.cells #[.int .i64 a1_0,.int .i64 a1_1,.slice A1_2 l1_2.length c1_2,.int .i64 a1_3,.int .u32 a1_4] 63 (0,0)) (qDs11_ Ad.out) hb)
        have n4_:=Aside0.mk (below_step qBs11_3 hb)
        have n5_:=Aside0.mk (hbox)
        have n6_:=Aside0.mk ((by rw [hg];exact (below_size qBs11_3) : w.heap.size ≤ Af))
        have n7_:=Aside0.mk ((by rw [hg];exact (below_size qBs11_3) : w.heap.size ≤ Af))
        have n8_:=Aside0.mk ((by rw [hg];exact Nat.ne_of_lt (blk_lt (g:=Aa) (o:=.cells #[.int .i64 a0_0,.int .i64 a0_1,.slice A0_2 l0_2.length c0_2,.int .i64 a0_3,.int .u32 a0_4] 63 (0,0)) (qDs11_ Ab.out)) : Aa ≠ Af))
        have n9_:=Aside0.mk ((by rw [hg];exact Nat.ne_of_gt (blk_lt (g:=Aa) (o:=.cells #[.int .i64 a0_0,.int .i64 a0_1,.slice A0_2 l0_2.length c0_2,.int .i64 a0_3,.int .u32 a0_4] 63 (0,0)) (qDs11_ Ab.out)) : Af ≠ Aa))
        have n10_:=Aside0.mk ((by rw [hg];exact Nat.ne_of_lt (blk_lt (g:=Ac) (o:=.cells #[.int .i64 a1_0,.int .i64 a1_1,.slice A1_2 l1_2.length c1_2,.int .i64 a1_3,.int .u32 a1_4] 63 (0,0)) (qDs11_ Ad.out)) : Ac ≠ Af))
        have n11_:=Aside0.mk ((by rw [hg];exact Nat.ne_of_gt (blk_lt (g:=Ac) (o:=.cells #[.int .i64 a1_0,.int .i64 a1_1,.slice A1_2 l1_2.length c1_2,.int .i64 a1_3,.int .u32 a1_4] 63 (0,0)) (qDs11_ Ad.out)) : Af ≠ Ac))
        clear As
        clear Aw
        clear Ab
        clear Ad
        clear HB
        have As:=n0_
        have Aw:=n1_
        have Ab:=n2_
        have Ad:=n3_
        have HB:=n4_
        have Al:=n5_
        have A1:=n6_
        have Av:=n7_
        have Ai:=n8_
        have Aq:=n9_
        have Aj:=n10_
        have Ar:=n11_
        clear n0_ n1_ n2_ n3_ n4_ n5_ n6_ n7_ n8_ n9_ n10_ n11_
        clear hb hbox hg
        refine hK.out _ _ ⟨(blk_cell Ab.out 0).trans rfl,(blk_cell Ab.out 1).trans rfl,(blk_cell Ab.out 2).trans rfl,(blk_cell Ab.out 3).trans rfl,(blk_cell Ab.out 4).trans rfl,(blk_cell Ad.out 0).trans rfl,(blk_cell Ad.out 1).trans rfl,(blk_cell Ad.out 2).trans rfl,(blk_cell Ad.out 3).trans rfl,(blk_cell Ad.out 4).trans rfl⟩ (fun hHeld=>?_)
        clear hK K
        refine norm_ (a':=?_) ?_ ?_
        rotate_left
        ·show Act.put _ (some 8) _ = _
         simp only [Act.put,List.setIfInBounds_toArray,List.set_cons_zero,List.set_cons_succ,i64_w,i32_w]
         rfl
        exact norm_ (by first|(simp only [putAll,Act.put,List.setIfInBounds_toArray,List.set_cons_zero,List.set_cons_succ];done)|(simp only [putAll,Act.put,List.setIfInBounds_toArray,List.set_cons_zero,List.set_cons_succ];rfl)) (hJ1_3_5 (v195,v202,Af) _ ⟨hHeld,(by (with_reducible repeat (first|apply Kd.S_alloc|apply Kd.S_drewN|apply Kd.S_drew));exact As.out),(by (with_reducible repeat (first|apply Kd.S_alloc|apply Kd.S_drewN|apply Kd.S_drew));exact Aw.out),(qDs11_ Ab.out),(qDs11_ Ad.out),(qDs11_ Al.out),A1.out,Av.out,Ai.out,Aq.out,Aj.out,Ar.out,qBs11_5⟩)
     ·skip
      rintro ⟨v195,Ae,Af⟩ w18 ⟨hS_,h0_,h1_,h2_,h3_,h4_,h5_,h6_,h7_,h8_,h9_,h10_,h11_,h12_,h13_,h14_,h15_,h16_,h17_,h18_,h19_⟩
      have n0_ : Aside0 (Kd.S (Kd.slice 3 (Kd.int .i64)) 23 w18 w.heap.size (fun _=>True) v195 t194):=⟨h0_⟩
      have n1_ : Aside0 (w18.heap[Aa]? = some (.cells #[.int .i64 a0_0,.int .i64 a0_1,.slice A0_2 l0_2.length c0_2,.int .i64 a0_3,.int .u32 a0_4] 63 (0,0))):=⟨h1_⟩
      have n2_ : Aside0 (w18.heap[Ac]? = some (.cells #[.int .i64 a1_0,.int .i64 a1_1,.slice A1_2 l1_2.length c1_2,.int .i64 a1_3,.int .u32 a1_4] 63 (0,0))):=⟨h2_⟩
      have n3_ : Aside0 (w18.heap[Ae]? = some (.cells #[.int .i64 0,.int .i64 0,.slice none 0 0,.int .i64 0,.int .u32 0] 63 (0,0))):=⟨h3_⟩
      have n4_ : Aside0 (w18.heap[Af]? = some (.cells #[.int .i64 0,.int .i64 0,.slice none 0 0,.int .i64 0,.int .u32 0] 63 (0,0))):=⟨h4_⟩
      have n5_ : Aside0 (w.heap.size ≤ Ae):=⟨h5_⟩
      have n6_ : Aside0 (w.heap.size ≤ Ae):=⟨h6_⟩
      have n7_ : Aside0 (Aa ≠ Ae):=⟨h7_⟩
      have n8_ : Aside0 (Ae ≠ Aa):=⟨h8_⟩
      have n9_ : Aside0 (Ac ≠ Ae):=⟨h9_⟩
      have n10_ : Aside0 (Ae ≠ Ac):=⟨h10_⟩
      have n11_ : Aside0 (Af ≠ Ae):=⟨h11_⟩
      have n12_ : Aside0 (Ae ≠ Af):=⟨h12_⟩
      have n13_ : Aside0 (w.heap.size ≤ Af):=⟨h13_⟩
      have n14_ : Aside0 (w.heap.size ≤ Af):=⟨h14_⟩
      have n15_ : Aside0 (Aa ≠ Af):=⟨h15_⟩
      have n16_ : Aside0 (Af ≠ Aa):=⟨h16_⟩
      have n17_ : Aside0 (Ac ≠ Af):=⟨h17_⟩
      have n18_ : Aside0 (Af ≠ Ac):=⟨h18_⟩
      have n19_ : Aside0 (Below w.heap.size w w18):=⟨h19_⟩
      clear Ab
      clear Ad
      clear HB
      clear h0_ h1_ h2_ h3_ h4_ h5_ h6_ h7_ h8_ h9_ h10_ h11_ h12_ h13_ h14_ h15_ h16_ h17_ h18_ h19_
      have As:=n0_
      have Ab:=n1_
      have Ad:=n2_
      have Ak:=n3_
      have Al:=n4_
      have A0:=n5_
      have Au:=n6_
      have Ag:=n7_
      have Ao:=n8_
      have Ah:=n9_
      have Ap:=n10_
      have Am:=n11_
      have An:=n12_
      have A1:=n13_
      have Av:=n14_
      have Ai:=n15_
      have Aq:=n16_
      have Aj:=n17_
      have Ar:=n18_
      have HB:=n19_
      clear n0_ n1_ n2_ n3_ n4_ n5_ n6_ n7_ n8_ n9_ n10_ n11_ n12_ n13_ n14_ n15_ n16_ n17_ n18_ n19_
      have hHeld : w18.cell? ⟨Aa,0,none⟩ = some (.int .i64 a0_0) ∧ w18.cell? ⟨Aa,1,none⟩ = some (.int .i64 a0_1) ∧ w18.cell? ⟨Aa,2,none⟩ = some (.slice A0_2 l0_2.length c0_2) ∧ w18.cell? ⟨Aa,3,none⟩ = some (.int .i64 a0_3) ∧ w18.cell? ⟨Aa,4,none⟩ = some (.int .u32 a0_4) ∧ w18.cell? ⟨Ac,0,none⟩ = some (.int .i64 a1_0) ∧ w18.cell? ⟨Ac,1,none⟩ = some (.int .i64 a1_1) ∧ w18.cell? ⟨Ac,2,none⟩ = some (.slice A1_2 l1_2.length c1_2) ∧ w18.cell? ⟨Ac,3,none⟩ = some (.int .i64 a1_3) ∧ w18.cell? ⟨Ac,4,none⟩ = some (.int .u32 a1_4):=hS_
      refine norm_ (a':=?_) ?_ ?_
      rotate_left
      ·simp only [putAll,Act.put,List.setIfInBounds_toArray,List.set_cons_zero,List.set_cons_succ]
       rfl
      refine one_ (i:=3) (N:=some 20) #[true,true,true,true,true,true,false,false] rfl rfl (one_of HT_.out (by kernel_rfl)) (by decide) (fun K hK=>?_)
      refine goes_ Try.func82 (by kernel_rfl) rfl #[.agg #[.int .i64 a1_0,.int .i64 a1_1,.slice A1_2 l1_2.length c1_2,.int .i64 a1_3,.int .u32 a1_4]] (by rfl) rfl rfl qAs11_8 ?_
      with_reducible refine (least_Small.calls k a1_0 a1_1 _ _ l1_2 a1_3 a1_4 A2 A4 Ax A7 A8 _ ?side1 ?side2 A6.out).mono ?_
      (case side1=>repeat (first|exact (Kd.C_below HR1_2.out HB.out)|(with_reducible refine Kd.C_alloc ?_ _)|(with_reducible refine Kd.C_drewN ?_ _)|(with_reducible refine Kd.C_drew ?_)))
      (case side2=>exact HC1_2.out)
      rintro e w19 ⟨v202,rfl,ho0,hb⟩
      refine ⟨_,rfl,?_⟩
      have n0_:=Aside0.mk (Kd.S_elder' (by (with_reducible repeat (first|apply Kd.S_alloc|apply Kd.S_drewN|apply Kd.S_drew));exact As.out) (Kd.S_base ho0) hb)
      have n1_:=Aside0.mk (Kd.S_lower (Kd.S_new' ho0 (Kd.S_lt (by (with_reducible repeat (first|apply Kd.S_alloc|apply Kd.S_drewN|apply Kd.S_drew));exact As.out))) (below_size qBs11_7))
      have n2_:=Aside0.mk (blk_below (g:=Aa) (o:=.cells #[.int .i64 a0_0,.int .i64 a0_1,.slice A0_2 l0_2.length c0_2,.int .i64 a0_3,.int .u32 a0_4] 63 (0,0)) (qDs11_ Ab.out) hb)
      have n3_:=Aside0.mk (blk_below (g:=Ac) (o:=.cells #[.int .i64 a1_0,.int .i64 a1_1,.slice A1_2 l1_2.length c1_2,.int .i64 a1_3,.int .u32 a1_4] 63 (0,0)) (qDs11_ Ad.out) hb)
      have n4_:=Aside0.mk (blk_below (g:=Ae) (o:=.cells #[.int .i64 0,.int .i64 0,.slice none 0 0,.int .i64 0,.int .u32 0] 63 (0,0)) (qDs11_ Ak.out) hb)
      have n5_:=Aside0.mk (blk_below (g:=Af) (o:=.cells #[.int .i64 0,.int .i64 0,.slice none 0 0,.int .i64 0,.int .u32 0] 63 (0,0)) (qDs11_ Al.out) hb)
      have n6_:=Aside0.mk (below_step qBs11_7 hb)
      clear As
      clear Ab
      clear Ad
      clear Ak
      clear Al
      clear HB
      have As:=n0_
      have Aw:=n1_
      have Ab:=n2_
      have Ad:=n3_
      have Ak:=n4_
      have Al:=n5_
      have HB:=n6_
      clear n0_ n1_ n2_ n3_ n4_ n5_ n6_
      (try clear hb)
      (try clear hb2)
      (try clear hk)
      (try clear hi)
      (try clear ho0)
      refine hK.out _ _ ⟨(blk_cell Ab.out 0).trans rfl,(blk_cell Ab.out 1).trans rfl,(blk_cell Ab.out 2).trans rfl,(blk_cell Ab.out 3).trans rfl,(blk_cell Ab.out 4).trans rfl,(blk_cell Ad.out 0).trans rfl,(blk_cell Ad.out 1).trans rfl,(blk_cell Ad.out 2).trans rfl,(blk_cell Ad.out 3).trans rfl,(blk_cell Ad.out 4).trans rfl⟩ (fun hHeld=>?_)
      clear hK K
      refine norm_ (a':=?_) ?_ ?_
      rotate_left
      ·show Act.put _ (some 20) _ = _
       simp only [Act.put,List.setIfInBounds_toArray,List.set_cons_zero,List.set_cons_succ,i64_w,i32_w]
       rfl
      exact norm_ (by first|(simp only [putAll,Act.put,List.setIfInBounds_toArray,List.set_cons_zero,List.set_cons_succ];done)|(simp only [putAll,Act.put,List.setIfInBounds_toArray,List.set_cons_zero,List.set_cons_succ];rfl)) (hJ1_3_4_5 (v195,v202,Ae,Af) _ ⟨hHeld,(by (with_reducible repeat (first|apply Kd.S_alloc|apply Kd.S_drewN|apply Kd.S_drew));exact Kd.S_mono As.out (fun _ hk=>hk.2)),(by (with_reducible repeat (first|apply Kd.S_alloc|apply Kd.S_drewN|apply Kd.S_drew));exact Kd.S_mono Aw.out (fun _ hk=>hk.2)),(qDs11_ Ab.out),(qDs11_ Ad.out),(qDs11_ Ak.out),(qDs11_ Al.out),A0.out,Au.out,Ag.out,Ao.out,Ah.out,Ap.out,Am.out,An.out,A1.out,Av.out,Ai.out,Aq.out,Aj.out,Ar.out,qBs11_7⟩)
    ·skip
     rintro ⟨v195,v202,Af⟩ w18 ⟨hS_,h0_,h1_,h2_,h3_,h4_,h5_,h6_,h7_,h8_,h9_,h10_,h11_⟩
     have n0_ : Aside0 (Kd.S (Kd.slice 3 (Kd.int .i64)) 23 w18 w.heap.size (fun k_=>some k_ ≠ (v202 : Value).ownBlock) v195 t194):=⟨h0_⟩
     have n1_ : Aside0 (Kd.S (Kd.slice 3 (Kd.int .i64)) 23 w18 w.heap.size (fun k_=>some k_ ≠ (v195 : Value).ownBlock) v202 Ax):=⟨h1_⟩
     have n2_ : Aside0 (w18.heap[Aa]? = some (.cells #[.int .i64 a0_0,.int .i64 a0_1,.slice A0_2 l0_2.length c0_2,.int .i64 a0_3,.int .u32 a0_4] 63 (0,0))):=⟨h2_⟩
     have n3_ : Aside0 (w18.heap[Ac]? = some (.cells #[.int .i64 a1_0,.int .i64 a1_1,.slice A1_2 l1_2.length c1_2,.int .i64 a1_3,.int .u32 a1_4] 63 (0,0))):=⟨h3_⟩
     have n4_ : Aside0 (w18.heap[Af]? = some (.cells #[.int .i64 0,.int .i64 0,.slice none 0 0,.int .i64 0,.int .u32 0] 63 (0,0))):=⟨h4_⟩
     have n5_ : Aside0 (w.heap.size ≤ Af):=⟨h5_⟩
     have n6_ : Aside0 (w.heap.size ≤ Af):=⟨h6_⟩
     have n7_ : Aside0 (Aa ≠ Af):=⟨h7_⟩
     have n8_ : Aside0 (Af ≠ Aa):=⟨h8_⟩
     have n9_ : Aside0 (Ac ≠ Af):=⟨h9_⟩
     have n10_ : Aside0 (Af ≠ Ac):=⟨h10_⟩
     have n11_ : Aside0 (Below w.heap.size w w18):=⟨h11_⟩
     clear Ab
     clear Ad
     clear HB
     clear h0_ h1_ h2_ h3_ h4_ h5_ h6_ h7_ h8_ h9_ h10_ h11_
     have As:=n0_
     have Aw:=n1_
     have Ab:=n2_
     have Ad:=n3_
     have Al:=n4_
     have A1:=n5_
     have Av:=n6_
     have Ai:=n7_
     have Aq:=n8_
     have Aj:=n9_
     have Ar:=n10_
     have HB:=n11_
     clear n0_ n1_ n2_ n3_ n4_ n5_ n6_ n7_ n8_ n9_ n10_ n11_
     have hHeld : w18.cell? ⟨Aa,0,none⟩ = some (.int .i64 a0_0) ∧ w18.cell? ⟨Aa,1,none⟩ = some (.int .i64 a0_1) ∧ w18.cell? ⟨Aa,2,none⟩ = some (.slice A0_2 l0_2.length c0_2) ∧ w18.cell? ⟨Aa,3,none⟩ = some (.int .i64 a0_3) ∧ w18.cell? ⟨Aa,4,none⟩ = some (.int .u32 a0_4) ∧ w18.cell? ⟨Ac,0,none⟩ = some (.int .i64 a1_0) ∧ w18.cell? ⟨Ac,1,none⟩ = some (.int .i64 a1_1) ∧ w18.cell? ⟨Ac,2,none⟩ = some (.slice A1_2 l1_2.length c1_2) ∧ w18.cell? ⟨Ac,3,none⟩ = some (.int .i64 a1_3) ∧ w18.cell? ⟨Ac,4,none⟩ = some (.int .u32 a1_4):=hS_
     refine norm_ (a':=?_) ?_ ?_
     rotate_left
     ·simp only [putAll,Act.put,List.setIfInBounds_toArray,List.set_cons_zero,List.set_cons_succ]
      rfl
     refine one_ (i:=4) (N:=some 7) #[true,true,true,true,true,true,false,false] rfl rfl (one_of HT_.out (by kernel_rfl)) (by decide) (fun K hK=>?_)
     refine box_step ?hg (N:=7) ?hd (cs:=#[.int .i64 0,.int .i64 0,.slice none 0 0,.int .i64 0,.int .u32 0]) (t:=63) ?hr ?_;(case hd=>rfl);(case hg=>rfl);(case hr=>first|(go_simp;done)|(go_simp;rfl))
     intro Ae hg w19 hbox hb
     have n0_:=Aside0.mk (Kd.S_below (by (with_reducible repeat (first|apply Kd.S_alloc|apply Kd.S_drewN|apply Kd.S_drew));exact As.out) hb)
     have n1_:=Aside0.mk (Kd.S_below (by (with_reducible repeat (first|apply Kd.S_alloc|apply Kd.S_drewN|apply Kd.S_drew));exact Aw.out) hb)
     have n2_:=Aside0.mk (blk_below (g:=Aa) (o:=.cells #[.int .i64 a0_0,.int .i64 a0_1,.slice A0_2 l0_2.length c0_2,.int .i64 a0_3,.int .u32 a0_4] 63 (0,0)) (qDs11_ Ab.out) hb)
     have n3_:=Aside0.mk (blk_below (g:=Ac) (o:=.cells #[.int .i64 a1_0,.int .i64 a1_1,.slice A1_2 l1_2.length c1_2,.int .i64 a1_3,.int .u32 a1_4] 63 (0,0)) (qDs11_ Ad.out) hb)
     have n4_:=Aside0.mk (blk_below (g:=Af) (o:=.cells #[.int .i64 0,.int .i64 0,.slice none 0 0,.int .i64 0,.int .u32 0] 63 (0,0)) (qDs11_ Al.out) hb)
     have n5_:=Aside0.mk (below_step qBs11_5 hb)
     have n6_:=Aside0.mk (hbox)
     have n7_:=Aside0.mk ((by rw [hg];exact (below_size qBs11_5) : w.heap.size ≤ Ae))
     have n8_:=Aside0.mk ((by rw [hg];exact (below_size qBs11_5) : w.heap.size ≤ Ae))
     have n9_:=Aside0.mk ((by rw [hg];exact Nat.ne_of_lt (blk_lt (g:=Aa) (o:=.cells #[.int .i64 a0_0,.int .i64 a0_1,.slice A0_2 l0_2.length c0_2,.int .i64 a0_3,.int .u32 a0_4] 63 (0,0)) (qDs11_ Ab.out)) : Aa ≠ Ae))
     have n10_:=Aside0.mk ((by rw [hg];exact Nat.ne_of_gt (blk_lt (g:=Aa) (o:=.cells #[.int .i64 a0_0,.int .i64 a0_1,.slice A0_2 l0_2.length c0_2,.int .i64 a0_3,.int .u32 a0_4] 63 (0,0)) (qDs11_ Ab.out)) : Ae ≠ Aa))
     have n11_:=Aside0.mk ((by rw [hg];exact Nat.ne_of_lt (blk_lt (g:=Ac) (o:=.cells #[.int .i64 a1_0,.int .i64 a1_1,.slice A1_2 l1_2.length c1_2,.int .i64 a1_3,.int .u32 a1_4] 63 (0,0)) (qDs11_ Ad.out)) : Ac ≠ Ae))
     have n12_:=Aside0.mk ((by rw [hg];exact Nat.ne_of_gt (blk_lt (g:=Ac) (o:=.cells #[.int .i64 a1_0,.int .i64 a1_1,.slice A1_2 l1_2.length c1_2,.int .i64 a1_3,.int .u32 a1_4] 63 (0,0)) (qDs11_ Ad.out)) : Ae ≠ Ac))
     have n13_:=Aside0.mk ((by rw [hg];exact Nat.ne_of_lt (blk_lt (g:=Af) (o:=.cells #[.int .i64 0,.int .i64 0,.slice none 0 0,.int .i64 0,.int .u32 0] 63 (0,0)) (qDs11_ Al.out)) : Af ≠ Ae))
     have n14_:=Aside0.mk ((by rw [hg];exact Nat.ne_of_gt (blk_lt (g:=Af) (o:=.cells #[.int .i64 0,.int .i64 0,.slice none 0 0,.int .i64 0,.int .u32 0] 63 (0,0)) (qDs11_ Al.out)) : Ae ≠ Af))
     clear As
     clear Aw
     clear Ab
     clear Ad
     clear Al
     clear HB
     have As:=n0_
     have Aw:=n1_
     have Ab:=n2_
     have Ad:=n3_
     have Al:=n4_
     have HB:=n5_
     have Ak:=n6_
     have A0:=n7_
     have Au:=n8_
     have Ag:=n9_
     have Ao:=n10_
     have Ah:=n11_
     have Ap:=n12_
     have Am:=n13_
     have An:=n14_
     clear n0_ n1_ n2_ n3_ n4_ n5_ n6_ n7_ n8_ n9_ n10_ n11_ n12_ n13_ n14_
     clear hb hbox hg
     refine hK.out _ _ ⟨(blk_cell Ab.out 0).trans rfl,(blk_cell Ab.out 1).trans rfl,(blk_cell Ab.out 2).trans rfl,(blk_cell Ab.out 3).trans rfl,(blk_cell Ab.out 4).trans rfl,(blk_cell Ad.out 0).trans rfl,(blk_cell Ad.out 1).trans rfl,(blk_cell Ad.out 2).trans rfl,(blk_cell Ad.out 3).trans rfl,(blk_cell Ad.out 4).trans rfl⟩ (fun hHeld=>?_)
     clear hK K
     refine norm_ (a':=?_) ?_ ?_
     rotate_left
     ·show Act.put _ (some 7) _ = _
      simp only [Act.put,List.setIfInBounds_toArray,List.set_cons_zero,List.set_cons_succ,i64_w,i32_w]
      rfl
     exact norm_ (by first|(simp only [putAll,Act.put,List.setIfInBounds_toArray,List.set_cons_zero,List.set_cons_succ];done)|(simp only [putAll,Act.put,List.setIfInBounds_toArray,List.set_cons_zero,List.set_cons_succ];rfl)) (hJ1_3_4_5 (v195,v202,Ae,Af) _ ⟨hHeld,(by (with_reducible repeat (first|apply Kd.S_alloc|apply Kd.S_drewN|apply Kd.S_drew));exact As.out),(by (with_reducible repeat (first|apply Kd.S_alloc|apply Kd.S_drewN|apply Kd.S_drew));exact Aw.out),(qDs11_ Ab.out),(qDs11_ Ad.out),(qDs11_ Ak.out),(qDs11_ Al.out),A0.out,Au.out,Ag.out,Ao.out,Ah.out,Ap.out,Am.out,An.out,A1.out,Av.out,Ai.out,Aq.out,Aj.out,Ar.out,qBs11_6⟩)
   ·skip
    rintro ⟨v195,v202,Ae⟩ w18 ⟨hS_,h0_,h1_,h2_,h3_,h4_,h5_,h6_,h7_,h8_,h9_,h10_,h11_⟩
    have n0_ : Aside0 (Kd.S (Kd.slice 3 (Kd.int .i64)) 23 w18 w.heap.size (fun k_=>some k_ ≠ (v202 : Value).ownBlock) v195 t194):=⟨h0_⟩
    have n1_ : Aside0 (Kd.S (Kd.slice 3 (Kd.int .i64)) 23 w18 w.heap.size (fun k_=>some k_ ≠ (v195 : Value).ownBlock) v202 Ax):=⟨h1_⟩
    have n2_ : Aside0 (w18.heap[Aa]? = some (.cells #[.int .i64 a0_0,.int .i64 a0_1,.slice A0_2 l0_2.length c0_2,.int .i64 a0_3,.int .u32 a0_4] 63 (0,0))):=⟨h2_⟩
    have n3_ : Aside0 (w18.heap[Ac]? = some (.cells #[.int .i64 a1_0,.int .i64 a1_1,.slice A1_2 l1_2.length c1_2,.int .i64 a1_3,.int .u32 a1_4] 63 (0,0))):=⟨h3_⟩
    have n4_ : Aside0 (w18.heap[Ae]? = some (.cells #[.int .i64 0,.int .i64 0,.slice none 0 0,.int .i64 0,.int .u32 0] 63 (0,0))):=⟨h4_⟩
    have n5_ : Aside0 (w.heap.size ≤ Ae):=⟨h5_⟩
    have n6_ : Aside0 (w.heap.size ≤ Ae):=⟨h6_⟩
    have n7_ : Aside0 (Aa ≠ Ae):=⟨h7_⟩
    have n8_ : Aside0 (Ae ≠ Aa):=⟨h8_⟩
    have n9_ : Aside0 (Ac ≠ Ae):=⟨h9_⟩
    have n10_ : Aside0 (Ae ≠ Ac):=⟨h10_⟩
    have n11_ : Aside0 (Below w.heap.size w w18):=⟨h11_⟩
    clear Ab
    clear Ad
    clear HB
    clear h0_ h1_ h2_ h3_ h4_ h5_ h6_ h7_ h8_ h9_ h10_ h11_
    have As:=n0_
    have Aw:=n1_
    have Ab:=n2_
    have Ad:=n3_
    have Ak:=n4_
    have A0:=n5_
    have Au:=n6_
    have Ag:=n7_
    have Ao:=n8_
    have Ah:=n9_
    have Ap:=n10_
    have HB:=n11_
    clear n0_ n1_ n2_ n3_ n4_ n5_ n6_ n7_ n8_ n9_ n10_ n11_
    have hHeld : w18.cell? ⟨Aa,0,none⟩ = some (.int .i64 a0_0) ∧ w18.cell? ⟨Aa,1,none⟩ = some (.int .i64 a0_1) ∧ w18.cell? ⟨Aa,2,none⟩ = some (.slice A0_2 l0_2.length c0_2) ∧ w18.cell? ⟨Aa,3,none⟩ = some (.int .i64 a0_3) ∧ w18.cell? ⟨Aa,4,none⟩ = some (.int .u32 a0_4) ∧ w18.cell? ⟨Ac,0,none⟩ = some (.int .i64 a1_0) ∧ w18.cell? ⟨Ac,1,none⟩ = some (.int .i64 a1_1) ∧ w18.cell? ⟨Ac,2,none⟩ = some (.slice A1_2 l1_2.length c1_2) ∧ w18.cell? ⟨Ac,3,none⟩ = some (.int .i64 a1_3) ∧ w18.cell? ⟨Ac,4,none⟩ = some (.int .u32 a1_4):=hS_
    refine norm_ (a':=?_) ?_ ?_
    rotate_left
    ·simp only [putAll,Act.put,List.setIfInBounds_toArray,List.set_cons_zero,List.set_cons_succ]
     rfl
    refine one_ (i:=5) (N:=some 8) #[true,true,true,true,true,true,false,false] rfl rfl (one_of HT_.out (by kernel_rfl)) (by decide) (fun K hK=>?_)
    refine box_step ?hg (N:=8) ?hd (cs:=#[.int .i64 0,.int .i64 0,.slice none 0 0,.int .i64 0,.int .u32 0]) (t:=63) ?hr ?_;(case hd=>rfl);(case hg=>rfl);(case hr=>first|(go_simp;done)|(go_simp;rfl))
    intro Af hg w19 hbox hb
    have n0_:=Aside0.mk (Kd.S_below (by (with_reducible repeat (first|apply Kd.S_alloc|apply Kd.S_drewN|apply Kd.S_drew));exact As.out) hb)
    have n1_:=Aside0.mk (Kd.S_below (by (with_reducible repeat (first|apply Kd.S_alloc|apply Kd.S_drewN|apply Kd.S_drew));exact Aw.out) hb)
    have n2_:=Aside0.mk (blk_below (g:=Aa) (o:=.cells #[.int .i64 a0_0,.int .i64 a0_1,.slice A0_2 l0_2.length c0_2,.int .i64 a0_3,.int .u32 a0_4] 63 (0,0)) (qDs11_ Ab.out) hb)
    have n3_:=Aside0.mk (blk_below (g:=Ac) (o:=.cells #[.int .i64 a1_0,.int .i64 a1_1,.slice A1_2 l1_2.length c1_2,.int .i64 a1_3,.int .u32 a1_4] 63 (0,0)) (qDs11_ Ad.out) hb)
    have n4_:=Aside0.mk (blk_below (g:=Ae) (o:=.cells #[.int .i64 0,.int .i64 0,.slice none 0 0,.int .i64 0,.int .u32 0] 63 (0,0)) (qDs11_ Ak.out) hb)
    have n5_:=Aside0.mk (below_step qBs11_4 hb)
    have n6_:=Aside0.mk (hbox)
    have n7_:=Aside0.mk ((by rw [hg];exact (below_size qBs11_4) : w.heap.size ≤ Af))
    have n8_:=Aside0.mk ((by rw [hg];exact (below_size qBs11_4) : w.heap.size ≤ Af))
    have n9_:=Aside0.mk ((by rw [hg];exact Nat.ne_of_lt (blk_lt (g:=Aa) (o:=.cells #[.int .i64 a0_0,.int .i64 a0_1,.slice A0_2 l0_2.length c0_2,.int .i64 a0_3,.int .u32 a0_4] 63 (0,0)) (qDs11_ Ab.out)) : Aa ≠ Af))
    have n10_:=Aside0.mk ((by rw [hg];exact Nat.ne_of_gt (blk_lt (g:=Aa) (o:=.cells #[.int .i64 a0_0,.int .i64 a0_1,.slice A0_2 l0_2.length c0_2,.int .i64 a0_3,.int .u32 a0_4] 63 (0,0)) (qDs11_ Ab.out)) : Af ≠ Aa))
    have n11_:=Aside0.mk ((by rw [hg];exact Nat.ne_of_lt (blk_lt (g:=Ac) (o:=.cells #[.int .i64 a1_0,.int .i64 a1_1,.slice A1_2 l1_2.length c1_2,.int .i64 a1_3,.int .u32 a1_4] 63 (0,0)) (qDs11_ Ad.out)) : Ac ≠ Af))
    have n12_:=Aside0.mk ((by rw [hg];exact Nat.ne_of_gt (blk_lt (g:=Ac) (o:=.cells #[.int .i64 a1_0,.int .i64 a1_1,.slice A1_2 l1_2.length c1_2,.int .i64 a1_3,.int .u32 a1_4] 63 (0,0)) (qDs11_ Ad.out)) : Af ≠ Ac))
    have n13_:=Aside0.mk ((by rw [hg];exact Nat.ne_of_lt (blk_lt (g:=Ae) (o:=.cells #[.int .i64 0,.int .i64 0,.slice none 0 0,.int .i64 0,.int .u32 0] 63 (0,0)) (qDs11_ Ak.out)) : Ae ≠ Af))
    have n14_:=Aside0.mk ((by rw [hg];exact Nat.ne_of_gt (blk_lt (g:=Ae) (o:=.cells #[.int .i64 0,.int .i64 0,.slice none 0 0,.int .i64 0,.int .u32 0] 63 (0,0)) (qDs11_ Ak.out)) : Af ≠ Ae))
    clear As
    clear Aw
    clear Ab
    clear Ad
    clear Ak
    clear HB
    have As:=n0_
    have Aw:=n1_
    have Ab:=n2_
    have Ad:=n3_
    have Ak:=n4_
    have HB:=n5_
    have Al:=n6_
    have A1:=n7_
    have Av:=n8_
    have Ai:=n9_
    have Aq:=n10_
    have Aj:=n11_
    have Ar:=n12_
    have An:=n13_
    have Am:=n14_
    clear n0_ n1_ n2_ n3_ n4_ n5_ n6_ n7_ n8_ n9_ n10_ n11_ n12_ n13_ n14_
    clear hb hbox hg
    refine hK.out _ _ ⟨(blk_cell Ab.out 0).trans rfl,(blk_cell Ab.out 1).trans rfl,(blk_cell Ab.out 2).trans rfl,(blk_cell Ab.out 3).trans rfl,(blk_cell Ab.out 4).trans rfl,(blk_cell Ad.out 0).trans rfl,(blk_cell Ad.out 1).trans rfl,(blk_cell Ad.out 2).trans rfl,(blk_cell Ad.out 3).trans rfl,(blk_cell Ad.out 4).trans rfl⟩ (fun hHeld=>?_)
    clear hK K
    refine norm_ (a':=?_) ?_ ?_
    rotate_left
    ·show Act.put _ (some 8) _ = _
     simp only [Act.put,List.setIfInBounds_toArray,List.set_cons_zero,List.set_cons_succ,i64_w,i32_w]
     rfl
    exact norm_ (by first|(simp only [putAll,Act.put,List.setIfInBounds_toArray,List.set_cons_zero,List.set_cons_succ];done)|(simp only [putAll,Act.put,List.setIfInBounds_toArray,List.set_cons_zero,List.set_cons_succ];rfl)) (hJ1_3_4_5 (v195,v202,Ae,Af) _ ⟨hHeld,(by (with_reducible repeat (first|apply Kd.S_alloc|apply Kd.S_drewN|apply Kd.S_drew));exact As.out),(by (with_reducible repeat (first|apply Kd.S_alloc|apply Kd.S_drewN|apply Kd.S_drew));exact Aw.out),(qDs11_ Ab.out),(qDs11_ Ad.out),(qDs11_ Ak.out),(qDs11_ Al.out),A0.out,Au.out,Ag.out,Ao.out,Ah.out,Ap.out,Am.out,An.out,A1.out,Av.out,Ai.out,Aq.out,Aj.out,Ar.out,qBs11_7⟩)
  rintro ⟨v195,v202,Ae,Af⟩ w19 ⟨hS_,h0_,h1_,h2_,h3_,h4_,h5_,h6_,h7_,h8_,h9_,h10_,h11_,h12_,h13_,h14_,h15_,h16_,h17_,h18_,h19_,h20_⟩
  have n0_ : Aside0 (Kd.S (Kd.slice 3 (Kd.int .i64)) 23 w19 w.heap.size (fun k_=>some k_ ≠ (v202 : Value).ownBlock) v195 t194):=⟨h0_⟩
  have n1_ : Aside0 (Kd.S (Kd.slice 3 (Kd.int .i64)) 23 w19 w.heap.size (fun k_=>some k_ ≠ (v195 : Value).ownBlock) v202 Ax):=⟨h1_⟩
  have n2_ : Aside0 (w19.heap[Aa]? = some (.cells #[.int .i64 a0_0,.int .i64 a0_1,.slice A0_2 l0_2.length c0_2,.int .i64 a0_3,.int .u32 a0_4] 63 (0,0))):=⟨h2_⟩
  have n3_ : Aside0 (w19.heap[Ac]? = some (.cells #[.int .i64 a1_0,.int .i64 a1_1,.slice A1_2 l1_2.length c1_2,.int .i64 a1_3,.int .u32 a1_4] 63 (0,0))):=⟨h3_⟩
  have n4_ : Aside0 (w19.heap[Ae]? = some (.cells #[.int .i64 0,.int .i64 0,.slice none 0 0,.int .i64 0,.int .u32 0] 63 (0,0))):=⟨h4_⟩
  have n5_ : Aside0 (w19.heap[Af]? = some (.cells #[.int .i64 0,.int .i64 0,.slice none 0 0,.int .i64 0,.int .u32 0] 63 (0,0))):=⟨h5_⟩
  have n6_ : Aside0 (w.heap.size ≤ Ae):=⟨h6_⟩
  have n7_ : Aside0 (w.heap.size ≤ Ae):=⟨h7_⟩
  have n8_ : Aside0 (Aa ≠ Ae):=⟨h8_⟩
  have n9_ : Aside0 (Ae ≠ Aa):=⟨h9_⟩
  have n10_ : Aside0 (Ac ≠ Ae):=⟨h10_⟩
  have n11_ : Aside0 (Ae ≠ Ac):=⟨h11_⟩
  have n12_ : Aside0 (Af ≠ Ae):=⟨h12_⟩
  have n13_ : Aside0 (Ae ≠ Af):=⟨h13_⟩
  have n14_ : Aside0 (w.heap.size ≤ Af):=⟨h14_⟩
  have n15_ : Aside0 (w.heap.size ≤ Af):=⟨h15_⟩
  have n16_ : Aside0 (Aa ≠ Af):=⟨h16_⟩
  have n17_ : Aside0 (Af ≠ Aa):=⟨h17_⟩
  have n18_ : Aside0 (Ac ≠ Af):=⟨h18_⟩
  have n19_ : Aside0 (Af ≠ Ac):=⟨h19_⟩
  have n20_ : Aside0 (Below w.heap.size w w19):=⟨h20_⟩
  clear Ab
  clear Ad
  clear HB
  clear h0_ h1_ h2_ h3_ h4_ h5_ h6_ h7_ h8_ h9_ h10_ h11_ h12_ h13_ h14_ h15_ h16_ h17_ h18_ h19_ h20_
  have As:=n0_
  have Aw:=n1_
  have Ab:=n2_
  have Ad:=n3_
  have Ak:=n4_
  have Al:=n5_
  have A0:=n6_
  have Au:=n7_
  have Ag:=n8_
  have Ao:=n9_
  have Ah:=n10_
  have Ap:=n11_
  have Am:=n12_
  have An:=n13_
  have A1:=n14_
  have Av:=n15_
  have Ai:=n16_
  have Aq:=n17_
  have Aj:=n18_
  have Ar:=n19_
  have HB:=n20_
  clear n0_ n1_ n2_ n3_ n4_ n5_ n6_ n7_ n8_ n9_ n10_ n11_ n12_ n13_ n14_ n15_ n16_ n17_ n18_ n19_ n20_
  have hHeld : w19.cell? ⟨Aa,0,none⟩ = some (.int .i64 a0_0) ∧ w19.cell? ⟨Aa,1,none⟩ = some (.int .i64 a0_1) ∧ w19.cell? ⟨Aa,2,none⟩ = some (.slice A0_2 l0_2.length c0_2) ∧ w19.cell? ⟨Aa,3,none⟩ = some (.int .i64 a0_3) ∧ w19.cell? ⟨Aa,4,none⟩ = some (.int .u32 a0_4) ∧ w19.cell? ⟨Ac,0,none⟩ = some (.int .i64 a1_0) ∧ w19.cell? ⟨Ac,1,none⟩ = some (.int .i64 a1_1) ∧ w19.cell? ⟨Ac,2,none⟩ = some (.slice A1_2 l1_2.length c1_2) ∧ w19.cell? ⟨Ac,3,none⟩ = some (.int .i64 a1_3) ∧ w19.cell? ⟨Ac,4,none⟩ = some (.int .u32 a1_4):=hS_
  obtain ⟨Ba,A9,eo22⟩:=Kd.S_slice As.out
  (first|subst eo22|(injection eo22 with f1_ f2_ f3_;have f4_:=f1_.symm;have f5_:=f3_.symm;clear f1_ f2_ f3_;subst f4_;subst f5_))
  obtain ⟨Bc,Bb,eo28⟩:=Kd.S_slice Aw.out
  (first|subst eo28|(injection eo28 with f1_ f2_ f3_;have f4_:=f1_.symm;have f5_:=f3_.symm;clear f1_ f2_ f3_;subst f4_;subst f5_))
  refine norm_ (a':=?_) ?_ ?_
  rotate_left
  ·simp only [putAll,Act.put,List.setIfInBounds_toArray,List.set_cons_zero,List.set_cons_succ]
   rfl
  refine one_ (i:=6) (N:=none) #[true,true,true,true,true,true,true,false] rfl rfl (one_of HT_.out (by kernel_rfl)) (by decide) (fun K hK=>?_)
  have hs20 : w19.cell? ⟨Ae,0,none⟩ = some (.int .i64 0):=(blk_cell Ak.out 0).trans rfl
  have hfs20:=blk_frozen Ak.out 0
  have hns20_0:=Ag.out
  have hns20_1:=Ah.out
  have hns20_3:=Am.out
  have hms20_0:=Ao.out
  have hms20_1:=Ap.out
  have hms20_3:=An.out
  have hs21 : w19.cell? ⟨Ae,1,none⟩ = some (.int .i64 0):=(blk_cell Ak.out 1).trans rfl
  have hfs21:=blk_frozen Ak.out 1
  have hns21_0:=Ag.out
  have hns21_1:=Ah.out
  have hns21_3:=Am.out
  have hms21_0:=Ao.out
  have hms21_1:=Ap.out
  have hms21_3:=An.out
  have hs23 : w19.cell? ⟨Ae,2,none⟩ = some (.slice none 0 0):=(blk_cell Ak.out 2).trans rfl
  have hfs23:=blk_frozen Ak.out 2
  have hns23_0:=Ag.out
  have hns23_1:=Ah.out
  have hns23_3:=Am.out
  have hms23_0:=Ao.out
  have hms23_1:=Ap.out
  have hms23_3:=An.out
  have hs24 : w19.cell? ⟨Ae,3,none⟩ = some (.int .i64 0):=(blk_cell Ak.out 3).trans rfl
  have hfs24:=blk_frozen Ak.out 3
  have hns24_0:=Ag.out
  have hns24_1:=Ah.out
  have hns24_3:=Am.out
  have hms24_0:=Ao.out
  have hms24_1:=Ap.out
  have hms24_3:=An.out
  have hs25 : w19.cell? ⟨Ae,4,none⟩ = some (.int .u32 0):=(blk_cell Ak.out 4).trans rfl
  have hfs25:=blk_frozen Ak.out 4
  have hns25_0:=Ag.out
  have hns25_1:=Ah.out
  have hns25_3:=Am.out
  have hms25_0:=Ao.out
  have hms25_1:=Ap.out
  have hms25_3:=An.out
  refine skip_ (w1:=?_) (by rfl) rfl ?_ ?_
  rotate_left
  ·go_simp
   rfl
  refine hK.out _ _ ⟨((cell_far (p:=⟨Ae,_,none⟩) Ag.out _).trans (((cell_far (p:=⟨Ae,_,none⟩) Ag.out _).trans (((cell_far (p:=⟨Ae,_,none⟩) Ag.out _).trans (((cell_far (p:=⟨Ae,_,none⟩) Ag.out _).trans (((cell_far (p:=⟨Ae,_,none⟩) Ag.out _).trans (hHeld.1)))))))))),((cell_far (p:=⟨Ae,_,none⟩) Ag.out _).trans (((cell_far (p:=⟨Ae,_,none⟩) Ag.out _).trans (((cell_far (p:=⟨Ae,_,none⟩) Ag.out _).trans (((cell_far (p:=⟨Ae,_,none⟩) Ag.out _).trans (((cell_far (p:=⟨Ae,_,none⟩) Ag.out _).trans (hHeld.2.1)))))))))),((cell_far (p:=⟨Ae,_,none⟩) Ag.out _).trans (((cell_far (p:=⟨Ae,_,none⟩) Ag.out _).trans (((cell_far (p:=⟨Ae,_,none⟩) Ag.out _).trans (((cell_far (p:=⟨Ae,_,none⟩) Ag.out _).trans (((cell_far (p:=⟨Ae,_,none⟩) Ag.out _).trans (hHeld.2.2.1)))))))))),((cell_far (p:=⟨Ae,_,none⟩) Ag.out _).trans (((cell_far (p:=⟨Ae,_,none⟩) Ag.out _).trans (((cell_far (p:=⟨Ae,_,none⟩) Ag.out _).trans (((cell_far (p:=⟨Ae,_,none⟩) Ag.out _).trans (((cell_far (p:=⟨Ae,_,none⟩) Ag.out _).trans (hHeld.2.2.2.1)))))))))),((cell_far (p:=⟨Ae,_,none⟩) Ag.out _).trans (((cell_far (p:=⟨Ae,_,none⟩) Ag.out _).trans (((cell_far (p:=⟨Ae,_,none⟩) Ag.out _).trans (((cell_far (p:=⟨Ae,_,none⟩) Ag.out _).trans (((cell_far (p:=⟨Ae,_,none⟩) Ag.out _).trans (hHeld.2.2.2.2.1)))))))))),((cell_far (p:=⟨Ae,_,none⟩) Ah.out _).trans (((cell_far (p:=⟨Ae,_,none⟩) Ah.out _).trans (((cell_far (p:=⟨Ae,_,none⟩) Ah.out _).trans (((cell_far (p:=⟨Ae,_,none⟩) Ah.out _).trans (((cell_far (p:=⟨Ae,_,none⟩) Ah.out _).trans (hHeld.2.2.2.2.2.1)))))))))),((cell_far (p:=⟨Ae,_,none⟩) Ah.out _).trans (((cell_far (p:=⟨Ae,_,none⟩) Ah.out _).trans (((cell_far (p:=⟨Ae,_,none⟩) Ah.out _).trans (((cell_far (p:=⟨Ae,_,none⟩) Ah.out _).trans (((cell_far (p:=⟨Ae,_,none⟩) Ah.out _).trans (hHeld.2.2.2.2.2.2.1)))))))))),((cell_far (p:=⟨Ae,_,none⟩) Ah.out _).trans (((cell_far (p:=⟨Ae,_,none⟩) Ah.out _).trans (((cell_far (p:=⟨Ae,_,none⟩) Ah.out _).trans (((cell_far (p:=⟨Ae,_,none⟩) Ah.out _).trans (((cell_far (p:=⟨Ae,_,none⟩) Ah.out _).trans (hHeld.2.2.2.2.2.2.2.1)))))))))),((cell_far (p:=⟨Ae,_,none⟩) Ah.out _).trans (((cell_far (p:=⟨Ae,_,none⟩) Ah.out _).trans (((cell_far (p:=⟨Ae,_,none⟩) Ah.out _).trans (((cell_far (p:=⟨Ae,_,none⟩) Ah.out _).trans (((cell_far (p:=⟨Ae,_,none⟩) Ah.out _).trans (hHeld.2.2.2.2.2.2.2.2.1)))))))))),((cell_far (p:=⟨Ae,_,none⟩) Ah.out _).trans (((cell_far (p:=⟨Ae,_,none⟩) Ah.out _).trans (((cell_far (p:=⟨Ae,_,none⟩) Ah.out _).trans (((cell_far (p:=⟨Ae,_,none⟩) Ah.out _).trans (((cell_far (p:=⟨Ae,_,none⟩) Ah.out _).trans (hHeld.2.2.2.2.2.2.2.2.2))))))))))⟩ (fun hHeld=>?_)
  clear hK K
  refine one_ (i:=7) (N:=none) #[true,true,true,true,true,true,true,true] rfl rfl (one_of HT_.out (by kernel_rfl)) (by decide) (fun K hK=>?_)
  have hs26 : w19.cell? ⟨Af,0,none⟩ = some (.int .i64 0):=(blk_cell Al.out 0).trans rfl
  have hfs26:=blk_frozen Al.out 0
  have hns26_0:=Ai.out
  have hns26_1:=Aj.out
  have hns26_2:=An.out
  have hms26_0:=Aq.out
  have hms26_1:=Ar.out
  have hms26_2:=Am.out
  have hs27 : w19.cell? ⟨Af,1,none⟩ = some (.int .i64 0):=(blk_cell Al.out 1).trans rfl
  have hfs27:=blk_frozen Al.out 1
  have hns27_0:=Ai.out
  have hns27_1:=Aj.out
  have hns27_2:=An.out
  have hms27_0:=Aq.out
  have hms27_1:=Ar.out
  have hms27_2:=Am.out
  have hs29 : w19.cell? ⟨Af,2,none⟩ = some (.slice none 0 0):=(blk_cell Al.out 2).trans rfl
  have hfs29:=blk_frozen Al.out 2
  have hns29_0:=Ai.out
  have hns29_1:=Aj.out
  have hns29_2:=An.out
  have hms29_0:=Aq.out
  have hms29_1:=Ar.out
  have hms29_2:=Am.out
  have hs30 : w19.cell? ⟨Af,3,none⟩ = some (.int .i64 0):=(blk_cell Al.out 3).trans rfl
  have hfs30:=blk_frozen Al.out 3
  have hns30_0:=Ai.out
  have hns30_1:=Aj.out
  have hns30_2:=An.out
  have hms30_0:=Aq.out
  have hms30_1:=Ar.out
  have hms30_2:=Am.out
  have hs31 : w19.cell? ⟨Af,4,none⟩ = some (.int .u32 0):=(blk_cell Al.out 4).trans rfl
  have hfs31:=blk_frozen Al.out 4
  have hns31_0:=Ai.out
  have hns31_1:=Aj.out
  have hns31_2:=An.out
  have hms31_0:=Aq.out
  have hms31_1:=Ar.out
  have hms31_2:=Am.out
  refine skip_ (w1:=?_) (by rfl) rfl ?_ ?_
  rotate_left
  ·go_simp
   rfl
  refine hK.out _ _ ⟨((cell_far (p:=⟨Af,_,none⟩) Ai.out _).trans (((cell_far (p:=⟨Af,_,none⟩) Ai.out _).trans (((cell_far (p:=⟨Af,_,none⟩) Ai.out _).trans (((cell_far (p:=⟨Af,_,none⟩) Ai.out _).trans (((cell_far (p:=⟨Af,_,none⟩) Ai.out _).trans (hHeld.1)))))))))),((cell_far (p:=⟨Af,_,none⟩) Ai.out _).trans (((cell_far (p:=⟨Af,_,none⟩) Ai.out _).trans (((cell_far (p:=⟨Af,_,none⟩) Ai.out _).trans (((cell_far (p:=⟨Af,_,none⟩) Ai.out _).trans (((cell_far (p:=⟨Af,_,none⟩) Ai.out _).trans (hHeld.2.1)))))))))),((cell_far (p:=⟨Af,_,none⟩) Ai.out _).trans (((cell_far (p:=⟨Af,_,none⟩) Ai.out _).trans (((cell_far (p:=⟨Af,_,none⟩) Ai.out _).trans (((cell_far (p:=⟨Af,_,none⟩) Ai.out _).trans (((cell_far (p:=⟨Af,_,none⟩) Ai.out _).trans (hHeld.2.2.1)))))))))),((cell_far (p:=⟨Af,_,none⟩) Ai.out _).trans (((cell_far (p:=⟨Af,_,none⟩) Ai.out _).trans (((cell_far (p:=⟨Af,_,none⟩) Ai.out _).trans (((cell_far (p:=⟨Af,_,none⟩) Ai.out _).trans (((cell_far (p:=⟨Af,_,none⟩) Ai.out _).trans (hHeld.2.2.2.1)))))))))),((cell_far (p:=⟨Af,_,none⟩) Ai.out _).trans (((cell_far (p:=⟨Af,_,none⟩) Ai.out _).trans (((cell_far (p:=⟨Af,_,none⟩) Ai.out _).trans (((cell_far (p:=⟨Af,_,none⟩) Ai.out _).trans (((cell_far (p:=⟨Af,_,none⟩) Ai.out _).trans (hHeld.2.2.2.2.1)))))))))),((cell_far (p:=⟨Af,_,none⟩) Aj.out _).trans (((cell_far (p:=⟨Af,_,none⟩) Aj.out _).trans (((cell_far (p:=⟨Af,_,none⟩) Aj.out _).trans (((cell_far (p:=⟨Af,_,none⟩) Aj.out _).trans (((cell_far (p:=⟨Af,_,none⟩) Aj.out _).trans (hHeld.2.2.2.2.2.1)))))))))),((cell_far (p:=⟨Af,_,none⟩) Aj.out _).trans (((cell_far (p:=⟨Af,_,none⟩) Aj.out _).trans (((cell_far (p:=⟨Af,_,none⟩) Aj.out _).trans (((cell_far (p:=⟨Af,_,none⟩) Aj.out _).trans (((cell_far (p:=⟨Af,_,none⟩) Aj.out _).trans (hHeld.2.2.2.2.2.2.1)))))))))),((cell_far (p:=⟨Af,_,none⟩) Aj.out _).trans (((cell_far (p:=⟨Af,_,none⟩) Aj.out _).trans (((cell_far (p:=⟨Af,_,none⟩) Aj.out _).trans (((cell_far (p:=⟨Af,_,none⟩) Aj.out _).trans (((cell_far (p:=⟨Af,_,none⟩) Aj.out _).trans (hHeld.2.2.2.2.2.2.2.1)))))))))),((cell_far (p:=⟨Af,_,none⟩) Aj.out _).trans (((cell_far (p:=⟨Af,_,none⟩) Aj.out _).trans (((cell_far (p:=⟨Af,_,none⟩) Aj.out _).trans (((cell_far (p:=⟨Af,_,none⟩) Aj.out _).trans (((cell_far (p:=⟨Af,_,none⟩) Aj.out _).trans (hHeld.2.2.2.2.2.2.2.2.1)))))))))),((cell_far (p:=⟨Af,_,none⟩) Aj.out _).trans (((cell_far (p:=⟨Af,_,none⟩) Aj.out _).trans (((cell_far (p:=⟨Af,_,none⟩) Aj.out _).trans (((cell_far (p:=⟨Af,_,none⟩) Aj.out _).trans (((cell_far (p:=⟨Af,_,none⟩) Aj.out _).trans (hHeld.2.2.2.2.2.2.2.2.2))))))))))⟩ (fun hHeld=>?_)
  clear hK K
  refine done_ (done_of HT_.out (by kernel_rfl)) ?_
  go_upto_region 5 with (fail)
  go_cut [9] (fun v9 wc=>∃ (kq : Nat) (x9_6 : Bool),v9 = .bool x9_6 ∧ Aside0 (least_Same.j0 kq x9_6 t192 t193 t194 t197 t198 A2 A4 Ax A7 A8 = some (r1,r2)) ∧ Aside0 (kq ≤ k) ∧ Aside0 (Kd.S (Kd.slice 3 (Kd.int .i64)) 23 wc w.heap.size (fun k_=>some k_ ≠ ((.slice Bc Ax.length Bb) : Value).ownBlock) (.slice Ba t194.length A9) t194) ∧ Aside0 (Kd.S (Kd.slice 3 (Kd.int .i64)) 23 wc w.heap.size (fun k_=>some k_ ≠ ((.slice Ba t194.length A9) : Value).ownBlock) (.slice Bc Ax.length Bb) Ax) ∧ Aside0 (wc.heap[Aa]? = some (.cells #[.int .i64 a0_0,.int .i64 a0_1,(.slice A0_2 l0_2.length c0_2),.int .i64 a0_3,.int .u32 a0_4] 63 (0,0))) ∧ Aside0 (wc.heap[Ac]? = some (.cells #[.int .i64 a1_0,.int .i64 a1_1,(.slice A1_2 l1_2.length c1_2),.int .i64 a1_3,.int .u32 a1_4] 63 (0,0))) ∧ Aside0 (wc.heap[Ae]? = some (.cells #[.int .i64 t192,.int .i64 t193,(.slice Ba t194.length A9),.int .i64 t197,.int .u32 t198] 63 (0,0))) ∧ Aside0 (wc.heap[Af]? = some (.cells #[.int .i64 A2,.int .i64 A4,(.slice Bc Ax.length Bb),.int .i64 A7,.int .u32 A8] 63 (0,0))) ∧ Aside0 (Below w.heap.size w wc))
  case first =>
   have H:=HC7.out
   clear HC7
   by_cases c32 : t192 = A2
   ·rw [if_pos c32] at H
    have c32b0 : (t192 == A2) = true:=beq_iff_eq.mpr c32
    have c32b1 : (t192 != A2) = false:=bne_eq_false_iff_eq.mpr c32
    clear c32
    (first|rw [c32b0]|(simp only [i64_w,i32_w];rw [c32b0])|skip)
    have H':=Aside0.mk H
    clear H
    have hnb33:=Ao.out
    have hnc33:=Ag.out
    have hnb34:=Ap.out
    have hnc34:=Ah.out
    have hnb35:=An.out
    have hnc35:=Am.out
    have hcz36_0 : w19.cell? ⟨Ae,0,none⟩ = some (.int .i64 0):=(blk_cell Ak.out 0).trans rfl
    have hcz36_1 : w19.cell? ⟨Ae,1,none⟩ = some (.int .i64 0):=(blk_cell Ak.out 1).trans rfl
    have hcz36_2 : w19.cell? ⟨Ae,2,none⟩ = some (.slice none 0 0):=(blk_cell Ak.out 2).trans rfl
    have hcz36_3 : w19.cell? ⟨Ae,3,none⟩ = some (.int .i64 0):=(blk_cell Ak.out 3).trans rfl
    have hcz36_4 : w19.cell? ⟨Ae,4,none⟩ = some (.int .u32 0):=(blk_cell Ak.out 4).trans rfl
    have hfz36_0:=blk_frozen Ak.out 0
    have hfz36_1:=blk_frozen Ak.out 1
    have hfz36_2:=blk_frozen Ak.out 2
    have hfz36_3:=blk_frozen Ak.out 3
    have hfz36_4:=blk_frozen Ak.out 4
    have hnb37:=Aq.out
    have hnc37:=Ai.out
    have hnb38:=Ar.out
    have hnc38:=Aj.out
    have hcz39_0 : w19.cell? ⟨Af,0,none⟩ = some (.int .i64 0):=(blk_cell Al.out 0).trans rfl
    have hcz39_1 : w19.cell? ⟨Af,1,none⟩ = some (.int .i64 0):=(blk_cell Al.out 1).trans rfl
    have hcz39_2 : w19.cell? ⟨Af,2,none⟩ = some (.slice none 0 0):=(blk_cell Al.out 2).trans rfl
    have hcz39_3 : w19.cell? ⟨Af,3,none⟩ = some (.int .i64 0):=(blk_cell Al.out 3).trans rfl
    have hcz39_4 : w19.cell? ⟨Af,4,none⟩ = some (.int .u32 0):=(blk_cell Al.out 4).trans rfl
    have hfz39_0:=blk_frozen Al.out 0
    have hfz39_1:=blk_frozen Al.out 1
    have hfz39_2:=blk_frozen Al.out 2
    have hfz39_3:=blk_frozen Al.out 3
    have hfz39_4:=blk_frozen Al.out 4
    go_wp2
    go_meet
    case rel=>exact ⟨_,((t198 == A8)),(by first|rfl|(simp;done)|(simp [*];done)),H',⟨by first|omega|exact Nat.le_refl _⟩,⟨by (with_reducible repeat (first|apply Kd.S_alloc|apply Kd.S_drewN|apply Kd.S_drew));exact Kd.S_mono (Kd.S_far (p:=⟨Af,4,none⟩) (Kd.S_far (p:=⟨Af,3,none⟩) (Kd.S_far (p:=⟨Af,2,none⟩) (Kd.S_far (p:=⟨Af,1,none⟩) (Kd.S_far (p:=⟨Af,0,none⟩) (Kd.S_far (p:=⟨Ae,4,none⟩) (Kd.S_far (p:=⟨Ae,3,none⟩) (Kd.S_far (p:=⟨Ae,2,none⟩) (Kd.S_far (p:=⟨Ae,1,none⟩) (Kd.S_far (p:=⟨Ae,0,none⟩) (Kd.S_types (Kd.S_types As.out Ak.out (by decide)) Al.out (by decide)) (fun _ hk=>hk.1.2) (.int .i64 t192)) (fun _ hk=>hk.1.2) (.int .i64 t193)) (fun _ hk=>hk.1.2) (.slice Ba t194.length A9)) (fun _ hk=>hk.1.2) (.int .i64 t197)) (fun _ hk=>hk.1.2) (.int .u32 t198)) (fun _ hk=>hk.2) (.int .i64 A2)) (fun _ hk=>hk.2) (.int .i64 A4)) (fun _ hk=>hk.2) (.slice Bc Ax.length Bb)) (fun _ hk=>hk.2) (.int .i64 A7)) (fun _ hk=>hk.2) (.int .u32 A8)) (fun _ hk=>hk.1.1)⟩,⟨by (with_reducible repeat (first|apply Kd.S_alloc|apply Kd.S_drewN|apply Kd.S_drew));exact Kd.S_mono (Kd.S_far (p:=⟨Af,4,none⟩) (Kd.S_far (p:=⟨Af,3,none⟩) (Kd.S_far (p:=⟨Af,2,none⟩) (Kd.S_far (p:=⟨Af,1,none⟩) (Kd.S_far (p:=⟨Af,0,none⟩) (Kd.S_far (p:=⟨Ae,4,none⟩) (Kd.S_far (p:=⟨Ae,3,none⟩) (Kd.S_far (p:=⟨Ae,2,none⟩) (Kd.S_far (p:=⟨Ae,1,none⟩) (Kd.S_far (p:=⟨Ae,0,none⟩) (Kd.S_types (Kd.S_types Aw.out Ak.out (by decide)) Al.out (by decide)) (fun _ hk=>hk.1.2) (.int .i64 t192)) (fun _ hk=>hk.1.2) (.int .i64 t193)) (fun _ hk=>hk.1.2) (.slice Ba t194.length A9)) (fun _ hk=>hk.1.2) (.int .i64 t197)) (fun _ hk=>hk.1.2) (.int .u32 t198)) (fun _ hk=>hk.2) (.int .i64 A2)) (fun _ hk=>hk.2) (.int .i64 A4)) (fun _ hk=>hk.2) (.slice Bc Ax.length Bb)) (fun _ hk=>hk.2) (.int .i64 A7)) (fun _ hk=>hk.2) (.int .u32 A8)) (fun _ hk=>hk.1.1)⟩,⟨by (with_reducible repeat (first|refine blk_drewN ?_ _|refine blk_drew ?_|refine blk_alloc ?_ _));refine blk_far ?_ Ai.out _;(with_reducible repeat (first|refine blk_drewN ?_ _|refine blk_drew ?_|refine blk_alloc ?_ _));refine blk_far ?_ Ai.out _;(with_reducible repeat (first|refine blk_drewN ?_ _|refine blk_drew ?_|refine blk_alloc ?_ _));refine blk_far ?_ Ai.out _;(with_reducible repeat (first|refine blk_drewN ?_ _|refine blk_drew ?_|refine blk_alloc ?_ _));refine blk_far ?_ Ai.out _;(with_reducible repeat (first|refine blk_drewN ?_ _|refine blk_drew ?_|refine blk_alloc ?_ _));refine blk_far ?_ Ai.out _;(with_reducible repeat (first|refine blk_drewN ?_ _|refine blk_drew ?_|refine blk_alloc ?_ _));refine blk_far ?_ Ag.out _;(with_reducible repeat (first|refine blk_drewN ?_ _|refine blk_drew ?_|refine blk_alloc ?_ _));refine blk_far ?_ Ag.out _;(with_reducible repeat (first|refine blk_drewN ?_ _|refine blk_drew ?_|refine blk_alloc ?_ _));refine blk_far ?_ Ag.out _;(with_reducible repeat (first|refine blk_drewN ?_ _|refine blk_drew ?_|refine blk_alloc ?_ _));refine blk_far ?_ Ag.out _;(with_reducible repeat (first|refine blk_drewN ?_ _|refine blk_drew ?_|refine blk_alloc ?_ _));refine blk_far ?_ Ag.out _;(with_reducible repeat (first|refine blk_drewN ?_ _|refine blk_drew ?_|refine blk_alloc ?_ _));exact Ab.out⟩,⟨by (with_reducible repeat (first|refine blk_drewN ?_ _|refine blk_drew ?_|refine blk_alloc ?_ _));refine blk_far ?_ Aj.out _;(with_reducible repeat (first|refine blk_drewN ?_ _|refine blk_drew ?_|refine blk_alloc ?_ _));refine blk_far ?_ Aj.out _;(with_reducible repeat (first|refine blk_drewN ?_ _|refine blk_drew ?_|refine blk_alloc ?_ _));refine blk_far ?_ Aj.out _;(with_reducible repeat (first|refine blk_drewN ?_ _|refine blk_drew ?_|refine blk_alloc ?_ _));refine blk_far ?_ Aj.out _;(with_reducible repeat (first|refine blk_drewN ?_ _|refine blk_drew ?_|refine blk_alloc ?_ _));refine blk_far ?_ Aj.out _;(with_reducible repeat (first|refine blk_drewN ?_ _|refine blk_drew ?_|refine blk_alloc ?_ _));refine blk_far ?_ Ah.out _;(with_reducible repeat (first|refine blk_drewN ?_ _|refine blk_drew ?_|refine blk_alloc ?_ _));refine blk_far ?_ Ah.out _;(with_reducible repeat (first|refine blk_drewN ?_ _|refine blk_drew ?_|refine blk_alloc ?_ _));refine blk_far ?_ Ah.out _;(with_reducible repeat (first|refine blk_drewN ?_ _|refine blk_drew ?_|refine blk_alloc ?_ _));refine blk_far ?_ Ah.out _;(with_reducible repeat (first|refine blk_drewN ?_ _|refine blk_drew ?_|refine blk_alloc ?_ _));refine blk_far ?_ Ah.out _;(with_reducible repeat (first|refine blk_drewN ?_ _|refine blk_drew ?_|refine blk_alloc ?_ _));exact Ad.out⟩,⟨by (with_reducible repeat (first|refine blk_drewN ?_ _|refine blk_drew ?_|refine blk_alloc ?_ _));refine blk_far ?_ An.out _;(with_reducible repeat (first|refine blk_drewN ?_ _|refine blk_drew ?_|refine blk_alloc ?_ _));refine blk_far ?_ An.out _;(with_reducible repeat (first|refine blk_drewN ?_ _|refine blk_drew ?_|refine blk_alloc ?_ _));refine blk_far ?_ An.out _;(with_reducible repeat (first|refine blk_drewN ?_ _|refine blk_drew ?_|refine blk_alloc ?_ _));refine blk_far ?_ An.out _;(with_reducible repeat (first|refine blk_drewN ?_ _|refine blk_drew ?_|refine blk_alloc ?_ _));refine blk_far ?_ An.out _;(with_reducible repeat (first|refine blk_drewN ?_ _|refine blk_drew ?_|refine blk_alloc ?_ _));refine blk_put (cs:=#[.int .i64 t192,.int .i64 t193,.slice Ba t194.length A9,.int .i64 t197,.int .u32 0]) ?_ 4 _ rfl;(with_reducible repeat (first|refine blk_drewN ?_ _|refine blk_drew ?_|refine blk_alloc ?_ _));refine blk_put (cs:=#[.int .i64 t192,.int .i64 t193,.slice Ba t194.length A9,.int .i64 0,.int .u32 0]) ?_ 3 _ rfl;(with_reducible repeat (first|refine blk_drewN ?_ _|refine blk_drew ?_|refine blk_alloc ?_ _));refine blk_put (cs:=#[.int .i64 t192,.int .i64 t193,.slice none 0 0,.int .i64 0,.int .u32 0]) ?_ 2 _ rfl;(with_reducible repeat (first|refine blk_drewN ?_ _|refine blk_drew ?_|refine blk_alloc ?_ _));refine blk_put (cs:=#[.int .i64 t192,.int .i64 0,.slice none 0 0,.int .i64 0,.int .u32 0]) ?_ 1 _ rfl;(with_reducible repeat (first|refine blk_drewN ?_ _|refine blk_drew ?_|refine blk_alloc ?_ _));refine blk_put (cs:=#[.int .i64 0,.int .i64 0,.slice none 0 0,.int .i64 0,.int .u32 0]) ?_ 0 _ rfl;(with_reducible repeat (first|refine blk_drewN ?_ _|refine blk_drew ?_|refine blk_alloc ?_ _));exact Ak.out⟩,⟨by (with_reducible repeat (first|refine blk_drewN ?_ _|refine blk_drew ?_|refine blk_alloc ?_ _));refine blk_put (cs:=#[.int .i64 A2,.int .i64 A4,.slice Bc Ax.length Bb,.int .i64 A7,.int .u32 0]) ?_ 4 _ rfl;(with_reducible repeat (first|refine blk_drewN ?_ _|refine blk_drew ?_|refine blk_alloc ?_ _));refine blk_put (cs:=#[.int .i64 A2,.int .i64 A4,.slice Bc Ax.length Bb,.int .i64 0,.int .u32 0]) ?_ 3 _ rfl;(with_reducible repeat (first|refine blk_drewN ?_ _|refine blk_drew ?_|refine blk_alloc ?_ _));refine blk_put (cs:=#[.int .i64 A2,.int .i64 A4,.slice none 0 0,.int .i64 0,.int .u32 0]) ?_ 2 _ rfl;(with_reducible repeat (first|refine blk_drewN ?_ _|refine blk_drew ?_|refine blk_alloc ?_ _));refine blk_put (cs:=#[.int .i64 A2,.int .i64 0,.slice none 0 0,.int .i64 0,.int .u32 0]) ?_ 1 _ rfl;(with_reducible repeat (first|refine blk_drewN ?_ _|refine blk_drew ?_|refine blk_alloc ?_ _));refine blk_put (cs:=#[.int .i64 0,.int .i64 0,.slice none 0 0,.int .i64 0,.int .u32 0]) ?_ 0 _ rfl;(with_reducible repeat (first|refine blk_drewN ?_ _|refine blk_drew ?_|refine blk_alloc ?_ _));refine blk_far ?_ Am.out _;(with_reducible repeat (first|refine blk_drewN ?_ _|refine blk_drew ?_|refine blk_alloc ?_ _));refine blk_far ?_ Am.out _;(with_reducible repeat (first|refine blk_drewN ?_ _|refine blk_drew ?_|refine blk_alloc ?_ _));refine blk_far ?_ Am.out _;(with_reducible repeat (first|refine blk_drewN ?_ _|refine blk_drew ?_|refine blk_alloc ?_ _));refine blk_far ?_ Am.out _;(with_reducible repeat (first|refine blk_drewN ?_ _|refine blk_drew ?_|refine blk_alloc ?_ _));refine blk_far ?_ Am.out _;(with_reducible repeat (first|refine blk_drewN ?_ _|refine blk_drew ?_|refine blk_alloc ?_ _));exact Al.out⟩,⟨by repeat (first|(with_reducible first|exact HB.out|apply below_alloc|apply pw_below_drewN|apply below_drew1|refine below_set ?_ Bf.out|refine below_set ?_ Bg.out|refine below_set ?_ Au.out|refine below_set ?_ Av.out)|exact HB.out)⟩⟩
   ·rw [if_neg c32] at H
    have c32b0 : (t192 == A2) = false:=beq_eq_false_iff_ne.mpr c32
    have c32b1 : (t192 != A2) = true:=bne_iff_ne.mpr c32
    (first|rw [c32b0]|(simp only [i64_w,i32_w];rw [c32b0])|skip)
    have H':=Aside0.mk H
    clear H
    have hnb40:=Ao.out
    have hnc40:=Ag.out
    have hnb41:=Ap.out
    have hnc41:=Ah.out
    have hnb42:=An.out
    have hnc42:=Am.out
    have hcz43_0 : w19.cell? ⟨Ae,0,none⟩ = some (.int .i64 0):=(blk_cell Ak.out 0).trans rfl
    have hcz43_1 : w19.cell? ⟨Ae,1,none⟩ = some (.int .i64 0):=(blk_cell Ak.out 1).trans rfl
    have hcz43_2 : w19.cell? ⟨Ae,2,none⟩ = some (.slice none 0 0):=(blk_cell Ak.out 2).trans rfl
    have hcz43_3 : w19.cell? ⟨Ae,3,none⟩ = some (.int .i64 0):=(blk_cell Ak.out 3).trans rfl
    have hcz43_4 : w19.cell? ⟨Ae,4,none⟩ = some (.int .u32 0):=(blk_cell Ak.out 4).trans rfl
    have hfz43_0:=blk_frozen Ak.out 0
    have hfz43_1:=blk_frozen Ak.out 1
    have hfz43_2:=blk_frozen Ak.out 2
    have hfz43_3:=blk_frozen Ak.out 3
    have hfz43_4:=blk_frozen Ak.out 4
    have hnb44:=Aq.out
    have hnc44:=Ai.out
    have hnb45:=Ar.out
    have hnc45:=Aj.out
    have hcz46_0 : w19.cell? ⟨Af,0,none⟩ = some (.int .i64 0):=(blk_cell Al.out 0).trans rfl
    have hcz46_1 : w19.cell? ⟨Af,1,none⟩ = some (.int .i64 0):=(blk_cell Al.out 1).trans rfl
    have hcz46_2 : w19.cell? ⟨Af,2,none⟩ = some (.slice none 0 0):=(blk_cell Al.out 2).trans rfl
    have hcz46_3 : w19.cell? ⟨Af,3,none⟩ = some (.int .i64 0):=(blk_cell Al.out 3).trans rfl
    have hcz46_4 : w19.cell? ⟨Af,4,none⟩ = some (.int .u32 0):=(blk_cell Al.out 4).trans rfl
    have hfz46_0:=blk_frozen Al.out 0
    have hfz46_1:=blk_frozen Al.out 1
    have hfz46_2:=blk_frozen Al.out 2
    have hfz46_3:=blk_frozen Al.out 3
    have hfz46_4:=blk_frozen Al.out 4
    go_wp2
    go_meet
    case rel=>exact ⟨_,(false),(by first|rfl|(simp;done)|(simp [*];done)),H',⟨by first|omega|exact Nat.le_refl _⟩,⟨by (with_reducible repeat (first|apply Kd.S_alloc|apply Kd.S_drewN|apply Kd.S_drew));exact Kd.S_mono (Kd.S_far (p:=⟨Af,4,none⟩) (Kd.S_far (p:=⟨Af,3,none⟩) (Kd.S_far (p:=⟨Af,2,none⟩) (Kd.S_far (p:=⟨Af,1,none⟩) (Kd.S_far (p:=⟨Af,0,none⟩) (Kd.S_far (p:=⟨Ae,4,none⟩) (Kd.S_far (p:=⟨Ae,3,none⟩) (Kd.S_far (p:=⟨Ae,2,none⟩) (Kd.S_far (p:=⟨Ae,1,none⟩) (Kd.S_far (p:=⟨Ae,0,none⟩) (Kd.S_types (Kd.S_types As.out Ak.out (by decide)) Al.out (by decide)) (fun _ hk=>hk.1.2) (.int .i64 t192)) (fun _ hk=>hk.1.2) (.int .i64 t193)) (fun _ hk=>hk.1.2) (.slice Ba t194.length A9)) (fun _ hk=>hk.1.2) (.int .i64 t197)) (fun _ hk=>hk.1.2) (.int .u32 t198)) (fun _ hk=>hk.2) (.int .i64 A2)) (fun _ hk=>hk.2) (.int .i64 A4)) (fun _ hk=>hk.2) (.slice Bc Ax.length Bb)) (fun _ hk=>hk.2) (.int .i64 A7)) (fun _ hk=>hk.2) (.int .u32 A8)) (fun _ hk=>hk.1.1)⟩,⟨by (with_reducible repeat (first|apply Kd.S_alloc|apply Kd.S_drewN|apply Kd.S_drew));exact Kd.S_mono (Kd.S_far (p:=⟨Af,4,none⟩) (Kd.S_far (p:=⟨Af,3,none⟩) (Kd.S_far (p:=⟨Af,2,none⟩) (Kd.S_far (p:=⟨Af,1,none⟩) (Kd.S_far (p:=⟨Af,0,none⟩) (Kd.S_far (p:=⟨Ae,4,none⟩) (Kd.S_far (p:=⟨Ae,3,none⟩) (Kd.S_far (p:=⟨Ae,2,none⟩) (Kd.S_far (p:=⟨Ae,1,none⟩) (Kd.S_far (p:=⟨Ae,0,none⟩) (Kd.S_types (Kd.S_types Aw.out Ak.out (by decide)) Al.out (by decide)) (fun _ hk=>hk.1.2) (.int .i64 t192)) (fun _ hk=>hk.1.2) (.int .i64 t193)) (fun _ hk=>hk.1.2) (.slice Ba t194.length A9)) (fun _ hk=>hk.1.2) (.int .i64 t197)) (fun _ hk=>hk.1.2) (.int .u32 t198)) (fun _ hk=>hk.2) (.int .i64 A2)) (fun _ hk=>hk.2) (.int .i64 A4)) (fun _ hk=>hk.2) (.slice Bc Ax.length Bb)) (fun _ hk=>hk.2) (.int .i64 A7)) (fun _ hk=>hk.2) (.int .u32 A8)) (fun _ hk=>hk.1.1)⟩,⟨by (with_reducible repeat (first|refine blk_drewN ?_ _|refine blk_drew ?_|refine blk_alloc ?_ _));refine blk_far ?_ Ai.out _;(with_reducible repeat (first|refine blk_drewN ?_ _|refine blk_drew ?_|refine blk_alloc ?_ _));refine blk_far ?_ Ai.out _;(with_reducible repeat (first|refine blk_drewN ?_ _|refine blk_drew ?_|refine blk_alloc ?_ _));refine blk_far ?_ Ai.out _;(with_reducible repeat (first|refine blk_drewN ?_ _|refine blk_drew ?_|refine blk_alloc ?_ _));refine blk_far ?_ Ai.out _;(with_reducible repeat (first|refine blk_drewN ?_ _|refine blk_drew ?_|refine blk_alloc ?_ _));refine blk_far ?_ Ai.out _;(with_reducible repeat (first|refine blk_drewN ?_ _|refine blk_drew ?_|refine blk_alloc ?_ _));refine blk_far ?_ Ag.out _;(with_reducible repeat (first|refine blk_drewN ?_ _|refine blk_drew ?_|refine blk_alloc ?_ _));refine blk_far ?_ Ag.out _;(with_reducible repeat (first|refine blk_drewN ?_ _|refine blk_drew ?_|refine blk_alloc ?_ _));refine blk_far ?_ Ag.out _;(with_reducible repeat (first|refine blk_drewN ?_ _|refine blk_drew ?_|refine blk_alloc ?_ _));refine blk_far ?_ Ag.out _;(with_reducible repeat (first|refine blk_drewN ?_ _|refine blk_drew ?_|refine blk_alloc ?_ _));refine blk_far ?_ Ag.out _;(with_reducible repeat (first|refine blk_drewN ?_ _|refine blk_drew ?_|refine blk_alloc ?_ _));exact Ab.out⟩,⟨by (with_reducible repeat (first|refine blk_drewN ?_ _|refine blk_drew ?_|refine blk_alloc ?_ _));refine blk_far ?_ Aj.out _;(with_reducible repeat (first|refine blk_drewN ?_ _|refine blk_drew ?_|refine blk_alloc ?_ _));refine blk_far ?_ Aj.out _;(with_reducible repeat (first|refine blk_drewN ?_ _|refine blk_drew ?_|refine blk_alloc ?_ _));refine blk_far ?_ Aj.out _;(with_reducible repeat (first|refine blk_drewN ?_ _|refine blk_drew ?_|refine blk_alloc ?_ _));refine blk_far ?_ Aj.out _;(with_reducible repeat (first|refine blk_drewN ?_ _|refine blk_drew ?_|refine blk_alloc ?_ _));refine blk_far ?_ Aj.out _;(with_reducible repeat (first|refine blk_drewN ?_ _|refine blk_drew ?_|refine blk_alloc ?_ _));refine blk_far ?_ Ah.out _;(with_reducible repeat (first|refine blk_drewN ?_ _|refine blk_drew ?_|refine blk_alloc ?_ _));refine blk_far ?_ Ah.out _;(with_reducible repeat (first|refine blk_drewN ?_ _|refine blk_drew ?_|refine blk_alloc ?_ _));refine blk_far ?_ Ah.out _;(with_reducible repeat (first|refine blk_drewN ?_ _|refine blk_drew ?_|refine blk_alloc ?_ _));refine blk_far ?_ Ah.out _;(with_reducible repeat (first|refine blk_drewN ?_ _|refine blk_drew ?_|refine blk_alloc ?_ _));refine blk_far ?_ Ah.out _;(with_reducible repeat (first|refine blk_drewN ?_ _|refine blk_drew ?_|refine blk_alloc ?_ _));exact Ad.out⟩,⟨by (with_reducible repeat (first|refine blk_drewN ?_ _|refine blk_drew ?_|refine blk_alloc ?_ _));refine blk_far ?_ An.out _;(with_reducible repeat (first|refine blk_drewN ?_ _|refine blk_drew ?_|refine blk_alloc ?_ _));refine blk_far ?_ An.out _;(with_reducible repeat (first|refine blk_drewN ?_ _|refine blk_drew ?_|refine blk_alloc ?_ _));refine blk_far ?_ An.out _;(with_reducible repeat (first|refine blk_drewN ?_ _|refine blk_drew ?_|refine blk_alloc ?_ _));refine blk_far ?_ An.out _;(with_reducible repeat (first|refine blk_drewN ?_ _|refine blk_drew ?_|refine blk_alloc ?_ _));refine blk_far ?_ An.out _;(with_reducible repeat (first|refine blk_drewN ?_ _|refine blk_drew ?_|refine blk_alloc ?_ _));refine blk_put (cs:=#[.int .i64 t192,.int .i64 t193,.slice Ba t194.length A9,.int .i64 t197,.int .u32 0]) ?_ 4 _ rfl;(with_reducible repeat (first|refine blk_drewN ?_ _|refine blk_drew ?_|refine blk_alloc ?_ _));refine blk_put (cs:=#[.int .i64 t192,.int .i64 t193,.slice Ba t194.length A9,.int .i64 0,.int .u32 0]) ?_ 3 _ rfl;(with_reducible repeat (first|refine blk_drewN ?_ _|refine blk_drew ?_|refine blk_alloc ?_ _));refine blk_put (cs:=#[.int .i64 t192,.int .i64 t193,.slice none 0 0,.int .i64 0,.int .u32 0]) ?_ 2 _ rfl;(with_reducible repeat (first|refine blk_drewN ?_ _|refine blk_drew ?_|refine blk_alloc ?_ _));refine blk_put (cs:=#[.int .i64 t192,.int .i64 0,.slice none 0 0,.int .i64 0,.int .u32 0]) ?_ 1 _ rfl;(with_reducible repeat (first|refine blk_drewN ?_ _|refine blk_drew ?_|refine blk_alloc ?_ _));refine blk_put (cs:=#[.int .i64 0,.int .i64 0,.slice none 0 0,.int .i64 0,.int .u32 0]) ?_ 0 _ rfl;(with_reducible repeat (first|refine blk_drewN ?_ _|refine blk_drew ?_|refine blk_alloc ?_ _));exact Ak.out⟩,⟨by (with_reducible repeat (first|refine blk_drewN ?_ _|refine blk_drew ?_|refine blk_alloc ?_ _));refine blk_put (cs:=#[.int .i64 A2,.int .i64 A4,.slice Bc Ax.length Bb,.int .i64 A7,.int .u32 0]) ?_ 4 _ rfl;(with_reducible repeat (first|refine blk_drewN ?_ _|refine blk_drew ?_|refine blk_alloc ?_ _));refine blk_put (cs:=#[.int .i64 A2,.int .i64 A4,.slice Bc Ax.length Bb,.int .i64 0,.int .u32 0]) ?_ 3 _ rfl;(with_reducible repeat (first|refine blk_drewN ?_ _|refine blk_drew ?_|refine blk_alloc ?_ _));refine blk_put (cs:=#[.int .i64 A2,.int .i64 A4,.slice none 0 0,.int .i64 0,.int .u32 0]) ?_ 2 _ rfl;(with_reducible repeat (first|refine blk_drewN ?_ _|refine blk_drew ?_|refine blk_alloc ?_ _));refine blk_put (cs:=#[.int .i64 A2,.int .i64 0,.slice none 0 0,.int .i64 0,.int .u32 0]) ?_ 1 _ rfl;(with_reducible repeat (first|refine blk_drewN ?_ _|refine blk_drew ?_|refine blk_alloc ?_ _));refine blk_put (cs:=#[.int .i64 0,.int .i64 0,.slice none 0 0,.int .i64 0,.int .u32 0]) ?_ 0 _ rfl;(with_reducible repeat (first|refine blk_drewN ?_ _|refine blk_drew ?_|refine blk_alloc ?_ _));refine blk_far ?_ Am.out _;(with_reducible repeat (first|refine blk_drewN ?_ _|refine blk_drew ?_|refine blk_alloc ?_ _));refine blk_far ?_ Am.out _;(with_reducible repeat (first|refine blk_drewN ?_ _|refine blk_drew ?_|refine blk_alloc ?_ _));refine blk_far ?_ Am.out _;(with_reducible repeat (first|refine blk_drewN ?_ _|refine blk_drew ?_|refine blk_alloc ?_ _));refine blk_far ?_ Am.out _;(with_reducible repeat (first|refine blk_drewN ?_ _|refine blk_drew ?_|refine blk_alloc ?_ _));refine blk_far ?_ Am.out _;(with_reducible repeat (first|refine blk_drewN ?_ _|refine blk_drew ?_|refine blk_alloc ?_ _));exact Al.out⟩,⟨by repeat (first|(with_reducible first|exact HB.out|apply below_alloc|apply pw_below_drewN|apply below_drew1|refine below_set ?_ Bf.out|refine below_set ?_ Bg.out|refine below_set ?_ Au.out|refine below_set ?_ Av.out)|exact HB.out)⟩⟩
  case rest =>
   clear HC7
   try clear c1
   try clear p2
   try clear c3
   try clear c4
   try clear c8
   try clear c32
   try clear c32b0
   try clear c32b1
   try clear c33
   try clear c34
   try clear c35
   try clear c37
   try clear c38
   try clear c40
   try clear c41
   try clear c42
   try clear c44
   try clear c45
   try clear hcz36_0
   try clear hcz36_1
   try clear hcz36_2
   try clear hcz36_3
   try clear hcz36_4
   try clear hcz39_0
   try clear hcz39_1
   try clear hcz39_2
   try clear hcz39_3
   try clear hcz39_4
   try clear hcz43_0
   try clear hcz43_1
   try clear hcz43_2
   try clear hcz43_3
   try clear hcz43_4
   try clear hcz46_0
   try clear hcz46_1
   try clear hcz46_2
   try clear hcz46_3
   try clear hcz46_4
   try clear hfz36_0
   try clear hfz36_1
   try clear hfz36_2
   try clear hfz36_3
   try clear hfz36_4
   try clear hfz39_0
   try clear hfz39_1
   try clear hfz39_2
   try clear hfz39_3
   try clear hfz39_4
   try clear hfz43_0
   try clear hfz43_1
   try clear hfz43_2
   try clear hfz43_3
   try clear hfz43_4
   try clear hfz46_0
   try clear hfz46_1
   try clear hfz46_2
   try clear hfz46_3
   try clear hfz46_4
   obtain ⟨kq,x9_6,rfl,HA,HJ6,Ay,Az,Ab,Ad,Ak,Al,HB⟩:=hcut
   cases kq with
   | zero=>exact absurd HA.out (by simp [least_Same.j0])
   | succ kj6 =>
    have H:=HA.out
    clear HA
    simp only [least_Same.j0] at H
    have H':=Aside0.mk H
    clear H
    go_wp2
    go_loopg [9,10] kj6 (fun kq v9 v10 w'=>∃ (x9_2 : Bool) (At : Int),v9 = .bool x9_2 ∧ v10 = .int .i64 At ∧ Aside0 (least_Same.l0 kq x9_2 At t192 t193 t194 t197 t198 A2 A4 Ax A7 A8 = some (r1,r2)) ∧ Aside0 (kq ≤ kj6) ∧ Aside0 (Kd.S (Kd.slice 3 (Kd.int .i64)) 23 w' w.heap.size (fun k_=>some k_ ≠ ((.slice Bc Ax.length Bb) : Value).ownBlock) (.slice Ba t194.length A9) t194) ∧ Aside0 (Kd.S (Kd.slice 3 (Kd.int .i64)) 23 w' w.heap.size (fun k_=>some k_ ≠ ((.slice Ba t194.length A9) : Value).ownBlock) (.slice Bc Ax.length Bb) Ax) ∧ Aside0 (w'.heap[Aa]? = some (.cells #[.int .i64 a0_0,.int .i64 a0_1,(.slice A0_2 l0_2.length c0_2),.int .i64 a0_3,.int .u32 a0_4] 63 (0,0))) ∧ Aside0 (w'.heap[Ac]? = some (.cells #[.int .i64 a1_0,.int .i64 a1_1,(.slice A1_2 l1_2.length c1_2),.int .i64 a1_3,.int .u32 a1_4] 63 (0,0))) ∧ Aside0 (w'.heap[Ae]? = some (.cells #[.int .i64 t192,.int .i64 t193,(.slice Ba t194.length A9),.int .i64 t197,.int .u32 t198] 63 (0,0))) ∧ Aside0 (w'.heap[Af]? = some (.cells #[.int .i64 A2,.int .i64 A4,(.slice Bc Ax.length Bb),.int .i64 A7,.int .u32 A8] 63 (0,0))) ∧ Aside0 (Below w.heap.size w w'))
    case atStart=>exact ⟨(x9_6),(0),(by first|rfl|(simp;done)|(simp [*];done)),(by first|rfl|(simp;done)|(simp [*];done)),H',⟨Nat.le_refl _⟩,⟨by (with_reducible repeat (first|apply Kd.S_alloc|apply Kd.S_drewN|apply Kd.S_drew));exact Ay.out⟩,⟨by (with_reducible repeat (first|apply Kd.S_alloc|apply Kd.S_drewN|apply Kd.S_drew));exact Az.out⟩,⟨by (with_reducible repeat (first|refine blk_drewN ?_ _|refine blk_drew ?_|refine blk_alloc ?_ _));exact Ab.out⟩,⟨by (with_reducible repeat (first|refine blk_drewN ?_ _|refine blk_drew ?_|refine blk_alloc ?_ _));exact Ad.out⟩,⟨by (with_reducible repeat (first|refine blk_drewN ?_ _|refine blk_drew ?_|refine blk_alloc ?_ _));exact Ak.out⟩,⟨by (with_reducible repeat (first|refine blk_drewN ?_ _|refine blk_drew ?_|refine blk_alloc ?_ _));exact Al.out⟩,⟨by repeat (first|(with_reducible first|exact HB.out|apply below_alloc|apply pw_below_drewN|apply below_drew1|refine below_set ?_ Bf.out|refine below_set ?_ Bg.out|refine below_set ?_ Au.out|refine below_set ?_ Av.out)|exact HB.out)⟩⟩
    case round =>
     clear H'
     try clear c1
     try clear p2
     try clear c3
     try clear c4
     try clear c8
     try clear c32
     try clear c32b0
     try clear c32b1
     try clear c33
     try clear c34
     try clear c35
     try clear c37
     try clear c38
     try clear c40
     try clear c41
     try clear c42
     try clear c44
     try clear c45
     try clear hcz36_0
     try clear hcz36_1
     try clear hcz36_2
     try clear hcz36_3
     try clear hcz36_4
     try clear hcz39_0
     try clear hcz39_1
     try clear hcz39_2
     try clear hcz39_3
     try clear hcz39_4
     try clear hcz43_0
     try clear hcz43_1
     try clear hcz43_2
     try clear hcz43_3
     try clear hcz43_4
     try clear hcz46_0
     try clear hcz46_1
     try clear hcz46_2
     try clear hcz46_3
     try clear hcz46_4
     try clear hfz36_0
     try clear hfz36_1
     try clear hfz36_2
     try clear hfz36_3
     try clear hfz36_4
     try clear hfz39_0
     try clear hfz39_1
     try clear hfz39_2
     try clear hfz39_3
     try clear hfz39_4
     try clear hfz43_0
     try clear hfz43_1
     try clear hfz43_2
     try clear hfz43_3
     try clear hfz43_4
     try clear hfz46_0
     try clear hfz46_1
     try clear hfz46_2
     try clear hfz46_3
     try clear hfz46_4
     try clear p2
     obtain ⟨x9_2,At,rfl,rfl,HA,HK2,Ay,Az,Ab,Ad,Ak,Al,HB⟩:=hrel
     cases gk with
     | zero=>exact absurd HA.out (by simp [least_Same.l0])
     | succ k2 =>
      have H:=HA.out
      clear HA
      simp only [least_Same.l0] at H
      by_cases c47 : At < t192
      ·rw [if_pos c47] at H
       have c47b0 : decide (At < t192) = true:=decide_eq_true c47
       clear c47
       by_cases c48 : x9_2 = true
       ·subst c48
        have H1 : (if 0 ≤ At then (if At < (t194.length : Int) then (if At < (Ax.length : Int) then ((slices_Equal_int_int.f k2 (rd_L1 t194 At) (rd_L1 Ax At)).bind fun t210=>(least_Same.l0 k2 t210 (wrap64 (At + 1)) t192 t193 t194 t197 t198 A2 A4 Ax A7 A8)) else (none)) else (none)) else (none)) = some (r1,r2):=by rw [if_pos rfl] at H;exact H
        clear H
        have H:=H1
        clear H1
        by_cases c49 : 0 ≤ At
        ·rw [if_pos c49] at H
         have c49b0 : decide (0 ≤ At) = true:=decide_eq_true c49
         clear c49
         by_cases c50 : At < (t194.length : Int)
         ·rw [if_pos c50] at H
          have c50b0 : decide (At < (t194.length : Int)) = true:=decide_eq_true c50
          clear c50
          by_cases c51 : At < (Ax.length : Int)
          ·rw [if_pos c51] at H
           have c51b0 : decide (At < (Ax.length : Int)) = true:=decide_eq_true c51
           clear c51
           replace H:=Option.bind_eq_some_iff.mp H
           obtain ⟨t210,A520,H⟩:=H
           replace H : (least_Same.l0 k2 t210 (wrap64 (At + 1)) t192 t193 t194 t197 t198 A2 A4 Ax A7 A8) = some (r1,r2):=H
           have A52:=Aside0.mk A520
           clear A520
           have H':=Aside0.mk H
           clear H
           have hnb53:=Ao.out
           have hnc53:=Ag.out
           have hnb54:=Ap.out
           have hnc54:=Ah.out
           have hnb55:=An.out
           have hnc55:=Am.out
           have hcz56_0 : wr.cell? ⟨Ae,0,none⟩ = some (.int .i64 t192):=(blk_cell Ak.out 0).trans rfl
           have hcz56_1 : wr.cell? ⟨Ae,1,none⟩ = some (.int .i64 t193):=(blk_cell Ak.out 1).trans rfl
           have hcz56_2 : wr.cell? ⟨Ae,2,none⟩ = some (.slice Ba t194.length A9):=(blk_cell Ak.out 2).trans rfl
           have hcz56_3 : wr.cell? ⟨Ae,3,none⟩ = some (.int .i64 t197):=(blk_cell Ak.out 3).trans rfl
           have hcz56_4 : wr.cell? ⟨Ae,4,none⟩ = some (.int .u32 t198):=(blk_cell Ak.out 4).trans rfl
           have hfz56_0:=blk_frozen Ak.out 0
           have hfz56_1:=blk_frozen Ak.out 1
           have hfz56_2:=blk_frozen Ak.out 2
           have hfz56_3:=blk_frozen Ak.out 3
           have hfz56_4:=blk_frozen Ak.out 4
           try go_wp2
           have n0_:=Aside0.mk (Kd.S_drew Ay.out)
           have n1_:=Aside0.mk (Kd.S_drew Az.out)
           have n2_:=Aside0.mk (blk_drew Ab.out)
           have n3_:=Aside0.mk (blk_drew Ad.out)
           have n4_:=Aside0.mk (blk_drew Ak.out)
           have n5_:=Aside0.mk (blk_drew Al.out)
           have n6_:=Aside0.mk (below_drew1 HB.out)
           clear Ay
           clear Az
           clear Ab
           clear Ad
           clear Ak
           clear Al
           clear HB
           have Ay:=n0_
           have Az:=n1_
           have Ab:=n2_
           have Ad:=n3_
           have Ak:=n4_
           have Al:=n5_
           have HB:=n6_
           clear n0_ n1_ n2_ n3_ n4_ n5_ n6_
           have p208 : 0 ≤ (At : Int):=of_decide_eq_true qAs11_9
           have q208 : At < (t194.length : Int):=of_decide_eq_true qAs11_9
           obtain ⟨ad208,A208_0,c208_0,e208,hx208_0,hl208_0,hi208_0⟩:=at_L1 (Kd.S_reads' Ay.out).2.2 At p208 q208
           cases e208
           obtain ⟨ce208,hce208,hMe208,hcc208⟩:=Kd.S_get Ay.out [] At p208 (by first|exact q208|exact of_decide_eq_true qAs11_9|(have e_:=(Kd.S_reads' Ay.out).1;omega))
           obtain ⟨ve208_0,rfl,ge208_0⟩:=id hMe208
           have hv208_0:=hcc208 0 _ rfl
           rw [Nat.add_zero,show ((Kd.slice 3 (Kd.int .i64))).sz = 1 from rfl,Nat.mul_one] at hv208_0
           replace hv208_0:=Option.some.inj (hv208_0.symm.trans hx208_0)
           rw [hv208_0] at ge208_0
           have HL208_0:=Aside0.mk (show Kd.R (Kd.int .i64) 3 _ _ _ _ (rd_L1 t194 At) from ge208_0)
           clear hv208_0 ge208_0
           clear hcc208 hce208
           have HR208_0:=Aside0.mk hi208_0
           have HC208_0:=Aside0.mk hl208_0
           clear hi208_0 hl208_0
           replace p208:=eq_true p208
           replace q208:=eq_true q208
           have p209 : 0 ≤ (At : Int):=of_decide_eq_true qAs11_9
           have q209 : At < (Ax.length : Int):=of_decide_eq_true qAs11_9
           obtain ⟨ad209,A209_0,c209_0,e209,hx209_0,hl209_0,hi209_0⟩:=at_L1 (Kd.S_reads' Az.out).2.2 At p209 q209
           cases e209
           obtain ⟨ce209,hce209,hMe209,hcc209⟩:=Kd.S_get Az.out [] At p209 (by first|exact q209|exact of_decide_eq_true qAs11_9|(have e_:=(Kd.S_reads' Az.out).1;omega))
           obtain ⟨ve209_0,rfl,ge209_0⟩:=id hMe209
           have hv209_0:=hcc209 0 _ rfl
           rw [Nat.add_zero,show ((Kd.slice 3 (Kd.int .i64))).sz = 1 from rfl,Nat.mul_one] at hv209_0
           replace hv209_0:=Option.some.inj (hv209_0.symm.trans hx209_0)
           rw [hv209_0] at ge209_0
           have HL209_0:=Aside0.mk (show Kd.R (Kd.int .i64) 3 _ _ _ _ (rd_L1 Ax At) from ge209_0)
           clear hv209_0 ge209_0
           clear hcc209 hce209
           have HR209_0:=Aside0.mk hi209_0
           have HC209_0:=Aside0.mk hl209_0
           clear hi209_0 hl209_0
           replace p209:=eq_true p209
           replace q209:=eq_true q209
           refine start_ (n:=12) (S:=fun w'=>w'.cell? ⟨Ae,0,none⟩ = some (.int .i64 t192) ∧ w'.cell? ⟨Ae,1,none⟩ = some (.int .i64 t193) ∧ w'.cell? ⟨Ae,2,none⟩ = some (.slice (some ad208) t194.length A9) ∧ w'.cell? ⟨Ae,3,none⟩ = some (.int .i64 t197) ∧ w'.cell? ⟨Ae,4,none⟩ = some (.int .u32 t198) ∧ w'.cell? ⟨Af,0,none⟩ = some (.int .i64 A2) ∧ w'.cell? ⟨Af,1,none⟩ = some (.int .i64 A4) ∧ w'.cell? ⟨Af,2,none⟩ = some (.slice (some ad209) Ax.length Bb) ∧ w'.cell? ⟨Af,3,none⟩ = some (.int .i64 A7) ∧ w'.cell? ⟨Af,4,none⟩ = some (.int .u32 A8) ∧ w'.cell? (ad208.add (At).toNat) = some (.slice A208_0 (rd_L1 t194 At).length c208_0) ∧ w'.cell? (ad209.add (At).toNat) = some (.slice A209_0 (rd_L1 Ax At).length c209_0)) (ds:=[]) #[false,false,false,false,false,false,false,false,false,false,false,false] (by kernel_rfl) rfl rfl ⟨(blk_cell Ak.out 0).trans rfl,(blk_cell Ak.out 1).trans rfl,(blk_cell Ak.out 2).trans rfl,(blk_cell Ak.out 3).trans rfl,(blk_cell Ak.out 4).trans rfl,(blk_cell Al.out 0).trans rfl,(blk_cell Al.out 1).trans rfl,(blk_cell Al.out 2).trans rfl,(blk_cell Al.out 3).trans rfl,(blk_cell Al.out 4).trans rfl,hx208_0,hx209_0⟩ (fun hHeld=>?_);refine with_tabW least_Same.tab9 least_Same.bits9 (fun HT_ HW_=>?_)
           generalize wr.drew = w57 at Ay Az Ab Ad Ak Al HB HL208_0 HL209_0 HR208_0 HR209_0 hx208_0 hx209_0 hHeld ⊢
           refine pure_ (i:=0) (N:=some 42) (v:=?_) (a':=?_) #[true,false,false,false,false,false,false,false,false,false,false,false] rfl rfl (any_of HT_.out (by kernel_rfl)) (fun _ _ _ h=>h) (Or.inl ⟨by rfl,?_⟩) ?_ ?_
           rotate_left
           ·intro w'
            go_simp
            with_reducible rfl
           rotate_left
           ·simp only [Act.put,List.setIfInBounds_toArray,List.set_cons_zero,List.set_cons_succ,i64_w,i32_w]
            rfl
           refine pure_ (i:=2) (N:=some 44) (v:=?_) (a':=?_) #[true,false,true,false,false,false,false,false,false,false,false,false] rfl rfl (any_of HT_.out (by kernel_rfl)) (fun _ _ _ h=>h) (Or.inl ⟨by rfl,?_⟩) ?_ ?_
           rotate_left
           ·intro w'
            go_simp
            with_reducible rfl
           rotate_left
           ·simp only [Act.put,List.setIfInBounds_toArray,List.set_cons_zero,List.set_cons_succ,i64_w,i32_w]
            rfl
           refine pure_ (i:=5) (N:=some 47) (v:=?_) (a':=?_) #[true,false,true,false,false,true,false,false,false,false,false,false] rfl rfl (any_of HT_.out (by kernel_rfl)) (fun _ _ _ h=>h) (Or.inl ⟨by rfl,?_⟩) ?_ ?_
           rotate_left
           ·intro w'
            go_simp
            with_reducible rfl
           rotate_left
           ·simp only [Act.put,List.setIfInBounds_toArray,List.set_cons_zero,List.set_cons_succ,i64_w,i32_w]
            rfl
           refine pure_ (i:=7) (N:=some 49) (v:=?_) (a':=?_) #[true,false,true,false,false,true,false,true,false,false,false,false] rfl rfl (any_of HT_.out (by kernel_rfl)) (fun _ _ _ h=>h) (Or.inl ⟨by rfl,?_⟩) ?_ ?_
           rotate_left
           ·intro w'
            go_simp
            with_reducible rfl
           rotate_left
           ·simp only [Act.put,List.setIfInBounds_toArray,List.set_cons_zero,List.set_cons_succ,i64_w,i32_w]
            rfl
           refine take_ (i:=1) (N:=some 43) (v:=?_) (a':=?_) #[true,true,true,false,false,true,false,true,false,false,false,false] rfl rfl (take_ofW HT_.out HW_.out (by kernel_rfl)) (fun _ _ _ h=>h) (Or.inl ⟨by rfl,?_⟩) hHeld ?_ ?_
           rotate_left
           ·rintro w' ⟨s0,s1,s2,s3,s4,s5,s6,s7,s8,s9,s10,s11⟩
            go_simp
            with_reducible rfl
           rotate_left
           ·simp only [Act.put,List.setIfInBounds_toArray,List.set_cons_zero,List.set_cons_succ,i64_w,i32_w]
            rfl
           refine pure_ (i:=3) (N:=some 45) (v:=?_) (a':=?_) #[true,true,true,true,false,true,false,true,false,false,false,false] rfl rfl (any_of HT_.out (by kernel_rfl)) (fun _ _ _ h=>h) (Or.inl ⟨by rfl,?_⟩) ?_ ?_
           rotate_left
           ·intro w'
            go_simp
            with_reducible rfl
           rotate_left
           ·simp only [Act.put,List.setIfInBounds_toArray,List.set_cons_zero,List.set_cons_succ,i64_w,i32_w]
            rfl
           refine take_ (i:=4) (N:=some 46) (v:=?_) (a':=?_) #[true,true,true,true,true,true,false,true,false,false,false,false] rfl rfl (take_ofW HT_.out HW_.out (by kernel_rfl)) (fun _ _ _ h=>h) (Or.inl ⟨by rfl,?_⟩) hHeld ?_ ?_
           rotate_left
           ·rintro w' ⟨s0,s1,s2,s3,s4,s5,s6,s7,s8,s9,s10,s11⟩
            go_simp
            with_reducible rfl
           rotate_left
           ·simp only [Act.put,List.setIfInBounds_toArray,List.set_cons_zero,List.set_cons_succ,i64_w,i32_w]
            rfl
           refine take_ (i:=6) (N:=some 48) (v:=?_) (a':=?_) #[true,true,true,true,true,true,true,true,false,false,false,false] rfl rfl (take_ofW HT_.out HW_.out (by kernel_rfl)) (fun _ _ _ h=>h) (Or.inl ⟨by rfl,?_⟩) hHeld ?_ ?_
           rotate_left
           ·rintro w' ⟨s0,s1,s2,s3,s4,s5,s6,s7,s8,s9,s10,s11⟩
            go_simp
            with_reducible rfl
           rotate_left
           ·simp only [Act.put,List.setIfInBounds_toArray,List.set_cons_zero,List.set_cons_succ,i64_w,i32_w]
            rfl
           refine pure_ (i:=8) (N:=some 50) (v:=?_) (a':=?_) #[true,true,true,true,true,true,true,true,true,false,false,false] rfl rfl (any_of HT_.out (by kernel_rfl)) (fun _ _ _ h=>h) (Or.inl ⟨by rfl,?_⟩) ?_ ?_
           rotate_left
           ·intro w'
            go_simp
            with_reducible rfl
           rotate_left
           ·simp only [Act.put,List.setIfInBounds_toArray,List.set_cons_zero,List.set_cons_succ,i64_w,i32_w]
            rfl
           refine take_ (i:=9) (N:=some 51) (v:=?_) (a':=?_) #[true,true,true,true,true,true,true,true,true,true,false,false] rfl rfl (take_ofW HT_.out HW_.out (by kernel_rfl)) (fun _ _ _ h=>h) (Or.inl ⟨by rfl,?_⟩) hHeld ?_ ?_
           rotate_left
           ·rintro w' ⟨s0,s1,s2,s3,s4,s5,s6,s7,s8,s9,s10,s11⟩
            go_simp
            with_reducible rfl
           rotate_left
           ·simp only [Act.put,List.setIfInBounds_toArray,List.set_cons_zero,List.set_cons_succ,i64_w,i32_w]
            rfl
           refine one_ (i:=10) (N:=some 52) #[true,true,true,true,true,true,true,true,true,true,true,false] rfl rfl (one_of HT_.out (by kernel_rfl)) (by decide) (fun K hK=>?_)
           refine goes_ Try.func83 (by kernel_rfl) rfl #[.slice A208_0 (rd_L1 t194 At).length c208_0,.slice A209_0 (rd_L1 Ax At).length c209_0] (by rfl) rfl rfl qAs11_8 ?_
           with_reducible refine (slices_Equal_int_int.calls k2 _ _ (rd_L1 t194 At) _ _ (rd_L1 Ax At) t210 _ ?side1 ?side2 ?side3 ?side4 A52.out).mono ?_
           (case side1=>repeat (first|exact (by repeat (first|(with_reducible exact HR208_0.out)|(with_reducible refine Kd.C_alloc ?_ _)|(with_reducible refine Kd.C_drewN ?_ _)|(with_reducible refine Kd.C_drew ?_)|exact HR208_0.out))|(with_reducible refine Kd.C_alloc ?_ _)|(with_reducible refine Kd.C_drewN ?_ _)|(with_reducible refine Kd.C_drew ?_)))
           (case side2=>exact HC208_0.out)
           (case side3=>repeat (first|exact (by repeat (first|(with_reducible exact HR209_0.out)|(with_reducible refine Kd.C_alloc ?_ _)|(with_reducible refine Kd.C_drewN ?_ _)|(with_reducible refine Kd.C_drew ?_)|exact HR209_0.out))|(with_reducible refine Kd.C_alloc ?_ _)|(with_reducible refine Kd.C_drewN ?_ _)|(with_reducible refine Kd.C_drew ?_)))
           (case side4=>exact HC209_0.out)
           rintro e w' ⟨rfl,⟨nd,rfl⟩⟩
           refine ⟨_,rfl,?_⟩
           refine hK.out _ _ ⟨(blk_cell Ak.out 0).trans rfl,(blk_cell Ak.out 1).trans rfl,(blk_cell Ak.out 2).trans rfl,(blk_cell Ak.out 3).trans rfl,(blk_cell Ak.out 4).trans rfl,(blk_cell Al.out 0).trans rfl,(blk_cell Al.out 1).trans rfl,(blk_cell Al.out 2).trans rfl,(blk_cell Al.out 3).trans rfl,(blk_cell Al.out 4).trans rfl,hHeld.2.2.2.2.2.2.2.2.2.2.1,hHeld.2.2.2.2.2.2.2.2.2.2.2⟩ (fun hHeld=>?_)
           clear hK K
           refine norm_ (a':=?_) ?_ ?_
           rotate_left
           ·show Act.put _ (some 52) _ = _
            simp only [Act.put,List.setIfInBounds_toArray,List.set_cons_zero,List.set_cons_succ,i64_w,i32_w]
            rfl
           refine pure_ (i:=11) (N:=some 9) (v:=?_) (a':=?_) #[true,true,true,true,true,true,true,true,true,true,true,true] rfl rfl (any_of HT_.out (by kernel_rfl)) (fun _ _ _ h=>h) (Or.inl ⟨by rfl,?_⟩) ?_ ?_
           rotate_left
           ·intro w'
            go_simp
            with_reducible rfl
           rotate_left
           ·simp only [Act.put,List.setIfInBounds_toArray,List.set_cons_zero,List.set_cons_succ,i64_w,i32_w]
            rfl
           refine done_ (done_of HT_.out (by kernel_rfl)) ?_
           try go_wp2
           go_roundg k2
           case measure=>have:=HJ6.out;have:=HK2.out;omega
           case rel=>exact ⟨(t210),(wrap64 (At + 1)),(by first|rfl|(simp;done)|(simp [*];done)),(by first|rfl|(simp;done)|(simp [*];done)),H',⟨by have:=HJ6.out;have:=HK2.out;omega⟩,⟨by (with_reducible repeat (first|apply Kd.S_alloc|apply Kd.S_drewN|apply Kd.S_drew));exact Ay.out⟩,⟨by (with_reducible repeat (first|apply Kd.S_alloc|apply Kd.S_drewN|apply Kd.S_drew));exact Az.out⟩,⟨by (with_reducible repeat (first|refine blk_drewN ?_ _|refine blk_drew ?_|refine blk_alloc ?_ _));exact Ab.out⟩,⟨by (with_reducible repeat (first|refine blk_drewN ?_ _|refine blk_drew ?_|refine blk_alloc ?_ _));exact Ad.out⟩,⟨by (with_reducible repeat (first|refine blk_drewN ?_ _|refine blk_drew ?_|refine blk_alloc ?_ _));exact Ak.out⟩,⟨by (with_reducible repeat (first|refine blk_drewN ?_ _|refine blk_drew ?_|refine blk_alloc ?_ _));exact Al.out⟩,⟨by repeat (first|(with_reducible first|exact HB.out|apply below_alloc|apply pw_below_drewN|apply below_drew1|refine below_set ?_ Bf.out|refine below_set ?_ Bg.out|refine below_set ?_ Au.out|refine below_set ?_ Av.out)|exact HB.out)⟩⟩
          ·rw [if_neg c51] at H
           exact absurd H (by simp)
         ·rw [if_neg c50] at H
          exact absurd H (by simp)
        ·rw [if_neg c49] at H
         exact absurd H (by simp)
       ·replace c48:=Bool.eq_false_iff.mpr c48
        subst c48
        have H1 : (some (false,0)) = some (r1,r2):=by rw [if_neg (show ¬ (false = true) by decide)] at H;exact H
        clear H
        have H:=H1
        clear H1
        simp only [Option.some.injEq,Prod.mk.injEq] at H
        obtain ⟨rfl,rfl⟩:=H
        have hnb58:=Ao.out
        have hnc58:=Ag.out
        have hnb59:=Ap.out
        have hnc59:=Ah.out
        have hnb60:=An.out
        have hnc60:=Am.out
        have hcz61_0 : wr.cell? ⟨Ae,0,none⟩ = some (.int .i64 t192):=(blk_cell Ak.out 0).trans rfl
        have hcz61_1 : wr.cell? ⟨Ae,1,none⟩ = some (.int .i64 t193):=(blk_cell Ak.out 1).trans rfl
        have hcz61_2 : wr.cell? ⟨Ae,2,none⟩ = some (.slice Ba t194.length A9):=(blk_cell Ak.out 2).trans rfl
        have hcz61_3 : wr.cell? ⟨Ae,3,none⟩ = some (.int .i64 t197):=(blk_cell Ak.out 3).trans rfl
        have hcz61_4 : wr.cell? ⟨Ae,4,none⟩ = some (.int .u32 t198):=(blk_cell Ak.out 4).trans rfl
        have hfz61_0:=blk_frozen Ak.out 0
        have hfz61_1:=blk_frozen Ak.out 1
        have hfz61_2:=blk_frozen Ak.out 2
        have hfz61_3:=blk_frozen Ak.out 3
        have hfz61_4:=blk_frozen Ak.out 4
        go_wp2
        go_ret2
        exact ⟨by first|rfl|(simp [errW_none,errW_some] <;> rfl)|(simp [*,errW_none,errW_some] <;> rfl),by repeat (first|(with_reducible first|exact HB.out|apply below_alloc|apply pw_below_drewN|apply below_drew1|refine below_set ?_ Bf.out|refine below_set ?_ Bg.out|refine below_set ?_ Au.out|refine below_set ?_ Av.out)|exact HB.out)⟩
      ·rw [if_neg c47] at H
       have c47b0 : decide (At < t192) = false:=decide_eq_false c47
       clear c47
       simp only [Option.some.injEq,Prod.mk.injEq] at H
       obtain ⟨rfl,rfl⟩:=H
       have hnb62:=Ao.out
       have hnc62:=Ag.out
       have hnb63:=Ap.out
       have hnc63:=Ah.out
       have hnb64:=An.out
       have hnc64:=Am.out
       have hcz65_0 : wr.cell? ⟨Ae,0,none⟩ = some (.int .i64 t192):=(blk_cell Ak.out 0).trans rfl
       have hcz65_1 : wr.cell? ⟨Ae,1,none⟩ = some (.int .i64 t193):=(blk_cell Ak.out 1).trans rfl
       have hcz65_2 : wr.cell? ⟨Ae,2,none⟩ = some (.slice Ba t194.length A9):=(blk_cell Ak.out 2).trans rfl
       have hcz65_3 : wr.cell? ⟨Ae,3,none⟩ = some (.int .i64 t197):=(blk_cell Ak.out 3).trans rfl
       have hcz65_4 : wr.cell? ⟨Ae,4,none⟩ = some (.int .u32 t198):=(blk_cell Ak.out 4).trans rfl
       have hfz65_0:=blk_frozen Ak.out 0
       have hfz65_1:=blk_frozen Ak.out 1
       have hfz65_2:=blk_frozen Ak.out 2
       have hfz65_3:=blk_frozen Ak.out 3
       have hfz65_4:=blk_frozen Ak.out 4
       go_wp2
       go_ret2
       exact ⟨by first|rfl|(simp [errW_none,errW_some] <;> rfl)|(simp [*,errW_none,errW_some] <;> rfl),by repeat (first|(with_reducible first|exact HB.out|apply below_alloc|apply pw_below_drewN|apply below_drew1|refine below_set ?_ Bf.out|refine below_set ?_ Bg.out|refine below_set ?_ Au.out|refine below_set ?_ Av.out)|exact HB.out)⟩
 ·rw [if_neg c4] at H
  have c4b0 : (t191 == 0) = false:=beq_eq_false_iff_ne.mpr c4
  have c4b1 : (t191 != 0) = true:=bne_iff_ne.mpr c4
  simp only [Option.some.injEq,Prod.mk.injEq] at H
  obtain ⟨rfl,rfl⟩:=H
  go_enter Try.func34,Try.ntmps34
  go_wp2_with (first|((with_reducible refine gate_dst (N:=2) rfl ?_);refine box_event ?hg (N:=2) ?hd (cs:=#[.int .i64 a0_0,.int .i64 a0_1,.slice A0_2 l0_2.length c0_2,.int .i64 a0_3,.int .u32 a0_4]) (t:=63) ?hr ?_;(case hd=>rfl);(case hg=>rfl);(case hr=>first|(go_simp;done)|(go_simp;rfl));intro Aa hg w66 hbox hb;have n0_:=Aside0.mk (below_step qBs11_1 hb);have n1_:=Aside0.mk (hbox);have n2_:=Aside0.mk ((by rw [hg];exact (below_size qBs11_1) : w.heap.size ≤ Aa));have n3_:=Aside0.mk ((by rw [hg];exact (below_size qBs11_1) : w.heap.size ≤ Aa));clear HB;have HB:=n0_;have Ab:=n1_;have GW189:=n2_;have Bf:=n3_;clear n0_ n1_ n2_ n3_;clear hb hbox hg)|((with_reducible refine gate_dst (N:=3) rfl ?_);refine box_event ?hg (N:=3) ?hd (cs:=#[.int .i64 a1_0,.int .i64 a1_1,.slice A1_2 l1_2.length c1_2,.int .i64 a1_3,.int .u32 a1_4]) (t:=63) ?hr ?_;(case hd=>rfl);(case hg=>rfl);(case hr=>first|(go_simp;done)|(go_simp;rfl));intro Ac hg w67 hbox hb;have n0_:=Aside0.mk (blk_below (g:=Aa) (o:=.cells #[.int .i64 a0_0,.int .i64 a0_1,.slice A0_2 l0_2.length c0_2,.int .i64 a0_3,.int .u32 a0_4] 63 (0,0)) (qDs11_ Ab.out) hb);have n1_:=Aside0.mk (below_step qBs11_2 hb);have n2_:=Aside0.mk (hbox);have n3_:=Aside0.mk ((by rw [hg];exact (below_size qBs11_2) : w.heap.size ≤ Ac));have n4_:=Aside0.mk ((by rw [hg];exact (below_size qBs11_2) : w.heap.size ≤ Ac));have n5_:=Aside0.mk ((by rw [hg];exact Nat.ne_of_lt (blk_lt (g:=Aa) (o:=.cells #[.int .i64 a0_0,.int .i64 a0_1,.slice A0_2 l0_2.length c0_2,.int .i64 a0_3,.int .u32 a0_4] 63 (0,0)) (qDs11_ Ab.out)) : Aa ≠ Ac));have n6_:=Aside0.mk ((by rw [hg];exact Nat.ne_of_gt (blk_lt (g:=Aa) (o:=.cells #[.int .i64 a0_0,.int .i64 a0_1,.slice A0_2 l0_2.length c0_2,.int .i64 a0_3,.int .u32 a0_4] 63 (0,0)) (qDs11_ Ab.out)) : Ac ≠ Aa));clear Ab;clear HB;have Ab:=n0_;have HB:=n1_;have Ad:=n2_;have GW190:=n3_;have Bg:=n4_;have Bd:=n5_;have Be:=n6_;clear n0_ n1_ n2_ n3_ n4_ n5_ n6_;clear hb hbox hg;have hnb68:=Bd.out;have hnc68:=Be.out;have hcz69_0 : w67.cell? ⟨Aa,0,none⟩ = some (.int .i64 a0_0):=(blk_cell Ab.out 0).trans rfl;have hcz69_1 : w67.cell? ⟨Aa,1,none⟩ = some (.int .i64 a0_1):=(blk_cell Ab.out 1).trans rfl;have hcz69_2 : w67.cell? ⟨Aa,2,none⟩ = some (.slice A0_2 l0_2.length c0_2):=(blk_cell Ab.out 2).trans rfl;have hcz69_3 : w67.cell? ⟨Aa,3,none⟩ = some (.int .i64 a0_3):=(blk_cell Ab.out 3).trans rfl;have hcz69_4 : w67.cell? ⟨Aa,4,none⟩ = some (.int .u32 a0_4):=(blk_cell Ab.out 4).trans rfl;have hfz69_0:=blk_frozen Ab.out 0;have hfz69_1:=blk_frozen Ab.out 1;have hfz69_2:=blk_frozen Ab.out 2;have hfz69_3:=blk_frozen Ab.out 3;have hfz69_4:=blk_frozen Ab.out 4;have hcz70_0 : w67.cell? ⟨Ac,0,none⟩ = some (.int .i64 a1_0):=(blk_cell Ad.out 0).trans rfl;have hcz70_1 : w67.cell? ⟨Ac,1,none⟩ = some (.int .i64 a1_1):=(blk_cell Ad.out 1).trans rfl;have hcz70_2 : w67.cell? ⟨Ac,2,none⟩ = some (.slice A1_2 l1_2.length c1_2):=(blk_cell Ad.out 2).trans rfl;have hcz70_3 : w67.cell? ⟨Ac,3,none⟩ = some (.int .i64 a1_3):=(blk_cell Ad.out 3).trans rfl;have hcz70_4 : w67.cell? ⟨Ac,4,none⟩ = some (.int .u32 a1_4):=(blk_cell Ad.out 4).trans rfl;have hfz70_0:=blk_frozen Ad.out 0;have hfz70_1:=blk_frozen Ad.out 1;have hfz70_2:=blk_frozen Ad.out 2;have hfz70_3:=blk_frozen Ad.out 3;have hfz70_4:=blk_frozen Ad.out 4)|((with_reducible refine gate_callee (f:=80) rfl ?_);refine goesL_ (some 13) rfl rfl Try.func80 (by kernel_rfl) rfl #[.agg #[.int .i64 a0_0,.int .i64 a0_1,.slice A0_2 l0_2.length c0_2,.int .i64 a0_3,.int .u32 a0_4],.agg #[.int .i64 a1_0,.int .i64 a1_1,.slice A1_2 l1_2.length c1_2,.int .i64 a1_3,.int .u32 a1_4]] rfl qAs11_8 ?_;(with_reducible refine (least_wrong.calls k a0_0 a0_1 _ _ l0_2 a0_3 a0_4 a1_0 a1_1 _ _ l1_2 a1_3 a1_4 t191 _ ?side1 ?side2 ?side3 ?side4 A3.out).mono ?_);(case side1=>repeat (first|exact (Kd.C_below HR0_2.out HB.out)|(with_reducible refine Kd.C_alloc ?_ _)|(with_reducible refine Kd.C_drewN ?_ _)|(with_reducible refine Kd.C_drew ?_)));(case side2=>exact HC0_2.out);(case side3=>repeat (first|exact (Kd.C_below HR1_2.out HB.out)|(with_reducible refine Kd.C_alloc ?_ _)|(with_reducible refine Kd.C_drewN ?_ _)|(with_reducible refine Kd.C_drew ?_)));(case side4=>exact HC1_2.out);rintro e w71 ⟨rfl,hb⟩;refine ⟨_,rfl,?_⟩;have n0_:=Aside0.mk (blk_below (g:=Aa) (o:=.cells #[.int .i64 a0_0,.int .i64 a0_1,.slice A0_2 l0_2.length c0_2,.int .i64 a0_3,.int .u32 a0_4] 63 (0,0)) (qDs11_ Ab.out) hb);have n1_:=Aside0.mk (blk_below (g:=Ac) (o:=.cells #[.int .i64 a1_0,.int .i64 a1_1,.slice A1_2 l1_2.length c1_2,.int .i64 a1_3,.int .u32 a1_4] 63 (0,0)) (qDs11_ Ad.out) hb);have n2_:=Aside0.mk (below_step qBs11_3 hb);clear Ab;clear Ad;clear HB;have Ab:=n0_;have Ad:=n1_;have HB:=n2_;clear n0_ n1_ n2_;(try clear hb);(try clear hb2);(try clear hk);(try clear hi)))
  go_ret2
  exact ⟨by first|rfl|(simp [errW_none,errW_some] <;> rfl)|(simp [*,errW_none,errW_some] <;> rfl),by repeat (first|(with_reducible first|exact HB.out|apply below_alloc|apply pw_below_drewN|apply below_drew1|refine below_set ?_ Bf.out|refine below_set ?_ Bg.out)|exact HB.out)⟩
end Go.Proofs.Ythgiiikjcfhgjaa.GV
