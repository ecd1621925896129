-- Written by ext.py, a program of this session.
import Derived.Test.YtiiankjmeodjdaaGV0
import Derived.Test.YtiiankjmeodjdaaGV7
namespace Go.Proofs.Ytiiankjmeodjdaa.GV
open Go.RowKit Go.Proofs.YtiiankjmeodjdaaW.PrintWords Go.Proofs.YtiiankjmeodjdaaW.PrintLast Go.Proofs.YtiiankjmeodjdaaW.PrintMore
attribute [local go_sem] max2_int min2_int max_two min_two max_three min_three max_four min_four cellIs_set   -- for this text's walks alone
set_option linter.unusedVariables false
set_option linter.unusedSimpArgs false
/-! ### coppicerkeep_turning: function 24 -/
def coppicerkeep_turning.f (k : Nat) (a0_0 : Int) (a0_1 : Int) (a0_2 : Int) (l0_3 : List (List Int)) (l0_4 : List (List (List Int))) (a0_5 : Int) : Option (Bool):=(coppicerref_TurnerCheck.f k a0_0 a0_1 a0_2 l0_3 l0_4 a0_5).bind fun t170=>(some (t170 == 0))
theorem coppicerkeep_turning.mono : ∀ a0 a1 a2 a3 a4 a5 k,LeO (coppicerkeep_turning.f k a0 a1 a2 a3 a4 a5) (coppicerkeep_turning.f (k + 1) a0 a1 a2 a3 a4 a5):=by
 intro a0 a1 a2 a3 a4 a5 k
 unfold coppicerkeep_turning.f
 repeat' first
   | (with_reducible exact coppicerref_TurnerCheck.mono _ _ _ _ _ _ _)
   | (with_reducible exact LeO.refl _)
   | (with_reducible exact LeO.none _)
   | (with_reducible refine LeO.ite ?_ ?_)
   | (with_reducible refine LeO.bind ?_ (fun _=>?_))
   | exact coppicerref_TurnerCheck.mono _ _ _ _ _ _ _
   | exact LeO.none _
   | refine LeO.ite ?_ ?_
   | refine LeO.bind ?_ (fun _=>?_)
set_option maxHeartbeats 8000000 in
set_option maxRecDepth 100000 in
theorem coppicerkeep_turning.calls (k : Nat) (a0_0 : Int) (a0_1 : Int) (a0_2 : Int) (A0_3 : Option Addr) (c0_3 : Nat) (l0_3 : List (List Int)) (A0_4 : Option Addr) (c0_4 : Nat) (l0_4 : List (List (List Int))) (a0_5 : Int) (r : Bool) (w : World) (hr0_3 : Kd.C (Kd.slice 3 (Kd.int .i64)) w A0_3 l0_3.length l0_3) (hc0_3 : l0_3.length ≤ c0_3) (hr0_4 : Kd.C (Kd.slice 28 (Kd.slice 3 (Kd.int .i64))) w A0_4 l0_4.length l0_4) (hc0_4 : l0_4.length ≤ c0_4) (h : coppicerkeep_turning.f k a0_0 a0_1 a0_2 l0_3 l0_4 a0_5 = some r) :
  Calls Try.prog 24 #[.agg #[.int .i64 a0_0,.int .i64 a0_1,.int .i64 a0_2,.slice A0_3 l0_3.length c0_3,.slice A0_4 l0_4.length c0_4,.int .i64 a0_5]] w fun e w'=>e = .returned (.bool r) ∧ Below w.heap.size w w':=by
 have hu50:=Try.underlying50
 have HR0_3:=Aside0.mk hr0_3
 have HC0_3:=Aside0.mk hc0_3
 clear hr0_3 hc0_3
 have HR0_4:=Aside0.mk hr0_4
 have HC0_4:=Aside0.mk hc0_4
 clear hr0_4 hc0_4
 have HB:=Aside0.mk (Below.refl w.heap.size w)
 have H : ((coppicerref_TurnerCheck.f k a0_0 a0_1 a0_2 l0_3 l0_4 a0_5).bind fun t170=>(some (t170 == 0))) = some r:=h
 clear h
 replace H:=Option.bind_eq_some_iff.mp H
 obtain ⟨t170,A20,H⟩:=H
 replace H : (some (t170 == 0)) = some r:=H
 have A2:=Aside0.mk A20
 clear A20
 obtain rfl:=Option.some.inj H
 go_enter Try.func24,Try.ntmps24
 go_wp2_with (first|((with_reducible refine gate_dst (N:=1) rfl ?_);refine box_event ?hg (N:=1) ?hd (cs:=#[.int .i64 a0_0,.int .i64 a0_1,.int .i64 a0_2,.slice A0_3 l0_3.length c0_3,.slice A0_4 l0_4.length c0_4,.int .i64 a0_5]) (t:=50) ?hr ?_;(case hd=>rfl);(case hg=>rfl);(case hr=>first|(go_simp;done)|(go_simp;rfl));intro gb169 hg w3 hbox hb;have n0_:=Aside0.mk (below_step (by repeat (first|(with_reducible first|exact HB.out|apply below_alloc|apply pw_below_drewN|apply below_drew1)|exact HB.out)) hb);have n1_:=Aside0.mk (hbox);have n2_:=Aside0.mk ((by rw [hg];exact (below_size (by repeat (first|(with_reducible first|exact HB.out|apply below_alloc|apply pw_below_drewN|apply below_drew1)|exact HB.out))) : w.heap.size ≤ gb169));have n3_:=Aside0.mk ((by rw [hg];exact (below_size (by repeat (first|(with_reducible first|exact HB.out|apply below_alloc|apply pw_below_drewN|apply below_drew1)|exact HB.out))) : w.heap.size ≤ gb169));clear HB;have HB:=n0_;have BK169:=n1_;have GW169:=n2_;have GE169:=n3_;clear n0_ n1_ n2_ n3_;clear hb hbox hg;have hcz4_0 : w3.cell? ⟨gb169,0,none⟩ = some (.int .i64 a0_0):=(blk_cell BK169.out 0).trans rfl;have hcz4_1 : w3.cell? ⟨gb169,1,none⟩ = some (.int .i64 a0_1):=(blk_cell BK169.out 1).trans rfl;have hcz4_2 : w3.cell? ⟨gb169,2,none⟩ = some (.int .i64 a0_2):=(blk_cell BK169.out 2).trans rfl;have hcz4_3 : w3.cell? ⟨gb169,3,none⟩ = some (.slice A0_3 l0_3.length c0_3):=(blk_cell BK169.out 3).trans rfl;have hcz4_4 : w3.cell? ⟨gb169,4,none⟩ = some (.slice A0_4 l0_4.length c0_4):=(blk_cell BK169.out 4).trans rfl;have hcz4_5 : w3.cell? ⟨gb169,5,none⟩ = some (.int .i64 a0_5):=(blk_cell BK169.out 5).trans rfl;have hfz4_0:=blk_frozen BK169.out 0;have hfz4_1:=blk_frozen BK169.out 1;have hfz4_2:=blk_frozen BK169.out 2;have hfz4_3:=blk_frozen BK169.out 3;have hfz4_4:=blk_frozen BK169.out 4;have hfz4_5:=blk_frozen BK169.out 5)|((with_reducible refine gate_callee (f:=48) rfl ?_);refine goesL_ (some 4) rfl rfl Try.func48 (by kernel_rfl) rfl #[.agg #[.int .i64 a0_0,.int .i64 a0_1,.int .i64 a0_2,.slice A0_3 l0_3.length c0_3,.slice A0_4 l0_4.length c0_4,.int .i64 a0_5]] rfl (by (try simp only [List.map_toArray,List.map_cons,List.map_nil]);first|done|rfl|(simp only [List.length_drop,List.length_take];rfl)) ?_;(with_reducible refine (coppicerref_TurnerCheck.calls k a0_0 a0_1 a0_2 _ _ l0_3 _ _ l0_4 a0_5 t170 _ ?side1 ?side2 ?side3 ?side4 A2.out).mono ?_);(case side1=>repeat (first|exact (Kd.C_below HR0_3.out HB.out)|(with_reducible refine Kd.C_alloc ?_ _)|(with_reducible refine Kd.C_drewN ?_ _)|(with_reducible refine Kd.C_drew ?_)));(case side2=>exact HC0_3.out);(case side3=>repeat (first|exact (Kd.C_below HR0_4.out HB.out)|(with_reducible refine Kd.C_alloc ?_ _)|(with_reducible refine Kd.C_drewN ?_ _)|(with_reducible refine Kd.C_drew ?_)));(case side4=>exact HC0_4.out);rintro e w5 ⟨rfl,hb⟩;refine ⟨_,rfl,?_⟩;have n0_:=Aside0.mk (blk_below (g:=gb169) (o:=.cells #[.int .i64 a0_0,.int .i64 a0_1,.int .i64 a0_2,.slice A0_3 l0_3.length c0_3,.slice A0_4 l0_4.length c0_4,.int .i64 a0_5] 50 (0,0)) (by (with_reducible repeat (first|refine blk_drewN ?_ _|refine blk_drew ?_|refine blk_alloc ?_ _));exact BK169.out) hb);have n1_:=Aside0.mk (below_step (by repeat (first|(with_reducible first|exact HB.out|apply below_alloc|apply pw_below_drewN|apply below_drew1|refine below_set ?_ GE169.out)|exact HB.out)) hb);clear BK169;clear HB;have BK169:=n0_;have HB:=n1_;clear n0_ n1_;(try clear hb);(try clear hb2);(try clear hk);(try clear hi)))
 go_ret
 exact ⟨by first|rfl|(simp [errW_none,errW_some] <;> rfl)|(simp [*,errW_none,errW_some] <;> rfl),by repeat (first|(with_reducible first|exact HB.out|apply below_alloc|apply pw_below_drewN|apply below_drew1|refine below_set ?_ GE169.out)|exact HB.out)⟩
end Go.Proofs.Ytiiankjmeodjdaa.GV
