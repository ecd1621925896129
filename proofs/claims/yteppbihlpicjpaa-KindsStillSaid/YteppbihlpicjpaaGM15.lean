-- Written by ext.py, a program of this session.
import Derived.Test.YteppbihlpicjpaaGM0
import Derived.Test.YteppbihlpicjpaaGM14
namespace Go.Proofs.Yteppbihlpicjpaa.GM
open Go.RowKit Go.Proofs.YteppbihlpicjpaaW.PrintWords Go.Proofs.YteppbihlpicjpaaW.PrintLast Go.Proofs.YteppbihlpicjpaaW.PrintMore
attribute [local go_sem] max2_int min2_int max_two min_two max_three min_three max_four min_four cellIs_set   -- for this text's walks alone
set_option linter.unusedVariables false
set_option linter.unusedSimpArgs false
/-! ### kinds_move_36: function 36 -/
def kinds_move_36.f (k : Nat) (l0 : List (S44)) (a1_0 : Int) (a1_1 : Int) (a1_2 : Int) (a1_3 : Int) (a1_4 : Int) (a1_5 : Int) (a1_6 : Int) : Option (Bool):=(kinds_move_39.f k l0 a1_0 a1_1 a1_2 a1_3 a1_4 a1_5 a1_6).bind fun t256=>(some (decide (t256 ≥ 0)))
theorem kinds_move_36.mono : ∀ a0 a1 a2 a3 a4 a5 a6 a7 k,LeO (kinds_move_36.f k a0 a1 a2 a3 a4 a5 a6 a7) (kinds_move_36.f (k + 1) a0 a1 a2 a3 a4 a5 a6 a7):=by
 intro a0 a1 a2 a3 a4 a5 a6 a7 k
 unfold kinds_move_36.f
 repeat' first
   | (with_reducible exact kinds_move_39.mono _ _ _ _ _ _ _ _ _)
   | (with_reducible exact LeO.refl _)
   | (with_reducible exact LeO.none _)
   | (with_reducible refine LeO.ite ?_ ?_)
   | (with_reducible refine LeO.bind ?_ (fun _=>?_))
   | exact kinds_move_39.mono _ _ _ _ _ _ _ _ _
   | exact LeO.none _
   | refine LeO.ite ?_ ?_
   | refine LeO.bind ?_ (fun _=>?_)
set_option maxHeartbeats 8000000 in
set_option maxRecDepth 100000 in
theorem kinds_move_36.calls (k : Nat) (A0 : Option Addr) (c0 : Nat) (l0 : List (S44)) (a1_0 : Int) (a1_1 : Int) (a1_2 : Int) (a1_3 : Int) (a1_4 : Int) (a1_5 : Int) (a1_6 : Int) (r : Bool) (w : World) (hr0 : Kd.C k44 w A0 l0.length l0) (hc0 : l0.length ≤ c0) (h : kinds_move_36.f k l0 a1_0 a1_1 a1_2 a1_3 a1_4 a1_5 a1_6 = some r) :
  Calls Try.prog 36 #[.slice A0 l0.length c0,.agg #[.int .i64 a1_0,.int .i64 a1_1,.int .i64 a1_2,.int .i64 a1_3,.int .i64 a1_4,.int .i64 a1_5,.int .i64 a1_6]] w fun e w'=>e = .returned (.bool r) ∧ Below w.heap.size w w':=by
 have hu44:=Try.underlying44
 have HR0:=Aside0.mk hr0
 have HC0:=Aside0.mk hc0
 clear hr0 hc0
 have HB:=Aside0.mk (Below.refl w.heap.size w)
 have H : ((kinds_move_39.f k l0 a1_0 a1_1 a1_2 a1_3 a1_4 a1_5 a1_6).bind fun t256=>(some (decide (t256 ≥ 0)))) = some r:=h
 clear h
 replace H:=Option.bind_eq_some_iff.mp H
 obtain ⟨t256,A30,H⟩:=H
 replace H : (some (decide (t256 ≥ 0))) = some r:=H
 have A3:=Aside0.mk A30
 clear A30
 obtain rfl:=Option.some.inj H
 go_enter Try.func36,Try.ntmps36
 go_wp2_with (first|((with_reducible refine gate_dst (N:=3) rfl ?_);refine box_event ?hg (N:=3) ?hd (cs:=#[.int .i64 a1_0,.int .i64 a1_1,.int .i64 a1_2,.int .i64 a1_3,.int .i64 a1_4,.int .i64 a1_5,.int .i64 a1_6]) (t:=44) ?hr ?_;(case hd=>rfl);(case hg=>rfl);(case hr=>first|(go_simp;done)|(go_simp;rfl));intro gb255 hg w4 hbox hb;have n0_:=Aside0.mk (below_step (by repeat (first|(with_reducible first|exact HB.out|apply below_alloc|apply pw_below_drewN|apply below_drew1)|exact HB.out)) hb);have n1_:=Aside0.mk (hbox);have n2_:=Aside0.mk ((by rw [hg];exact (below_size (by repeat (first|(with_reducible first|exact HB.out|apply below_alloc|apply pw_below_drewN|apply below_drew1)|exact HB.out))) : w.heap.size ≤ gb255));have n3_:=Aside0.mk ((by rw [hg];exact (below_size (by repeat (first|(with_reducible first|exact HB.out|apply below_alloc|apply pw_below_drewN|apply below_drew1)|exact HB.out))) : w.heap.size ≤ gb255));clear HB;have HB:=n0_;have BK255:=n1_;have GW255:=n2_;have GE255:=n3_;clear n0_ n1_ n2_ n3_;clear hb hbox hg;have hcz5_0 : w4.cell? ⟨gb255,0,none⟩ = some (.int .i64 a1_0):=(blk_cell BK255.out 0).trans rfl;have hcz5_1 : w4.cell? ⟨gb255,1,none⟩ = some (.int .i64 a1_1):=(blk_cell BK255.out 1).trans rfl;have hcz5_2 : w4.cell? ⟨gb255,2,none⟩ = some (.int .i64 a1_2):=(blk_cell BK255.out 2).trans rfl;have hcz5_3 : w4.cell? ⟨gb255,3,none⟩ = some (.int .i64 a1_3):=(blk_cell BK255.out 3).trans rfl;have hcz5_4 : w4.cell? ⟨gb255,4,none⟩ = some (.int .i64 a1_4):=(blk_cell BK255.out 4).trans rfl;have hcz5_5 : w4.cell? ⟨gb255,5,none⟩ = some (.int .i64 a1_5):=(blk_cell BK255.out 5).trans rfl;have hcz5_6 : w4.cell? ⟨gb255,6,none⟩ = some (.int .i64 a1_6):=(blk_cell BK255.out 6).trans rfl;have hfz5_0:=blk_frozen BK255.out 0;have hfz5_1:=blk_frozen BK255.out 1;have hfz5_2:=blk_frozen BK255.out 2;have hfz5_3:=blk_frozen BK255.out 3;have hfz5_4:=blk_frozen BK255.out 4;have hfz5_5:=blk_frozen BK255.out 5;have hfz5_6:=blk_frozen BK255.out 6)|((with_reducible refine gate_callee (f:=39) rfl ?_);refine goesL_ (some 7) rfl rfl Try.func39 (by kernel_rfl) rfl #[.slice A0 l0.length c0,.agg #[.int .i64 a1_0,.int .i64 a1_1,.int .i64 a1_2,.int .i64 a1_3,.int .i64 a1_4,.int .i64 a1_5,.int .i64 a1_6]] rfl (by (try simp only [List.map_toArray,List.map_cons,List.map_nil]);first|done|rfl|(simp only [List.length_drop,List.length_take];rfl)) ?_;(with_reducible refine (kinds_move_39.calls k _ _ l0 a1_0 a1_1 a1_2 a1_3 a1_4 a1_5 a1_6 t256 _ ?side1 ?side2 A3.out).mono ?_);(case side1=>repeat (first|exact (Kd.C_below HR0.out HB.out)|(with_reducible refine Kd.C_alloc ?_ _)|(with_reducible refine Kd.C_drewN ?_ _)|(with_reducible refine Kd.C_drew ?_)));(case side2=>exact HC0.out);rintro e w6 ⟨rfl,hb⟩;refine ⟨_,rfl,?_⟩;have n0_:=Aside0.mk (blk_below (g:=gb255) (o:=.cells #[.int .i64 a1_0,.int .i64 a1_1,.int .i64 a1_2,.int .i64 a1_3,.int .i64 a1_4,.int .i64 a1_5,.int .i64 a1_6] 44 (0,0)) (by (with_reducible repeat (first|refine blk_drewN ?_ _|refine blk_drew ?_|refine blk_alloc ?_ _));exact BK255.out) hb);have n1_:=Aside0.mk (below_step (by repeat (first|(with_reducible first|exact HB.out|apply below_alloc|apply pw_below_drewN|apply below_drew1|refine below_set ?_ GE255.out)|exact HB.out)) hb);clear BK255;clear HB;have BK255:=n0_;have HB:=n1_;clear n0_ n1_;(try clear hb);(try clear hb2);(try clear hk);(try clear hi)))
 go_ret
 exact ⟨by first|rfl|(simp [errW_none,errW_some] <;> rfl)|(simp [*,errW_none,errW_some] <;> rfl),by repeat (first|(with_reducible first|exact HB.out|apply below_alloc|apply pw_below_drewN|apply below_drew1|refine below_set ?_ GE255.out)|exact HB.out)⟩
end Go.Proofs.Yteppbihlpicjpaa.GM
