-- Written by ext.py, a program of this session.
import Derived.Test.YthgiiikjcfhgjaaGV0
import Derived.Test.YthgiiikjcfhgjaaGV5
namespace Go.Proofs.Ythgiiikjcfhgjaa.GV
open Go.RowKit Go.Proofs.YthgiiikjcfhgjaaW.PrintWords Go.Proofs.YthgiiikjcfhgjaaW.PrintLast Go.Proofs.YthgiiikjcfhgjaaW.PrintMore
attribute [local go_sem] max2_int min2_int max_two min_two max_three min_three max_four min_four cellIs_set   -- for this text's walks alone
set_option linter.unusedVariables false
set_option linter.unusedSimpArgs false
/-! ### least_small: function 118 -/
mutual
def least_small.l0 : Nat → List Int → List Int → Int → Int → Int → List (List Int) → Int → Int → Int → Int → List (List Int) → Int → Int → Option (Int × Int × (List (List Int)) × Int × Int × List Int)
 | 0,_,_,_,_,_,_,_,_,_,_,_,_,_=>none
 | k + 1,x1,x6,x8,x119000,x119001,x119002,x119003,x119004,x125000,x125001,x125002,x125003,x125004=>if x8 < (x6.length : Int) then (least_small.l1 k x1 x6 x8 ([] : List Int) x119001 0 x119000 x119001 x119002 x119003 x119004 x125000 x125001 x125002 x125003 x125004) else (some ((x6.length : Int),x125001,x125002,x125003,x125004,x6))
def least_small.l1 : Nat → List Int → List Int → Int → List Int → Int → Int → Int → Int → List (List Int) → Int → Int → Int → Int → List (List Int) → Int → Int → Option (Int × Int × (List (List Int)) × Int × Int × List Int)
 | 0,_,_,_,_,_,_,_,_,_,_,_,_,_,_,_,_=>none
 | k + 1,x1,x6,x8,x9,x29,x30,x119000,x119001,x119002,x119003,x119004,x125000,x125001,x125002,x125003,x125004=>if x30 < x29 then (if 0 ≤ x8 then (if x8 < (x6.length : Int) then (if 0 ≤ (rd x6 x8) then (if (rd x6 x8) < (x119002.length : Int) then (if 0 ≤ x30 then (if x30 < ((rd_L1 x119002 (rd x6 x8)).length : Int) then (if 0 ≤ (rd (rd_L1 x119002 (rd x6 x8)) x30) then (if (rd (rd_L1 x119002 (rd x6 x8)) x30) < (x1.length : Int) then ((slices_Index_int_int.f k x6 (rd x1 (rd (rd_L1 x119002 (rd x6 x8)) x30))).bind fun t129=>(if t129 < 0 then (if x6.length < 17592186044416 then (if x9.length < 17592186044416 then (least_small.l1 k x1 (x6 ++ [rd x1 (rd (rd_L1 x119002 (rd x6 x8)) x30)]) x8 (x9 ++ [(x6.length : Int)]) x29 (wrap64 (x30 + 1)) x119000 x119001 x119002 x119003 x119004 x125000 x125001 x125002 x125003 x125004) else (none)) else (none)) else (if x9.length < 17592186044416 then (least_small.l1 k x1 x6 x8 (x9 ++ [t129]) x29 (wrap64 (x30 + 1)) x119000 x119001 x119002 x119003 x119004 x125000 x125001 x125002 x125003 x125004) else (none)))) else (none)) else (none)) else (none)) else (none)) else (none)) else (none)) else (none)) else (none)) else (if x125002.length < 5864062014805 then (least_small.l0 k x1 x6 (wrap64 (x8 + 1)) x119000 x119001 x119002 x119003 x119004 x125000 x125001 (x125002 ++ [x9]) x125003 x125004) else (none))
end
def least_small.f (k : Nat) (a0_0 : Int) (a0_1 : Int) (l0_2 : List (List Int)) (a0_3 : Int) (a0_4 : Int) (l1 : List Int) : Option (Int × Int × (List (List Int)) × Int × Int × List Int):=if 0 ≤ a0_3 then (if a0_3 < (l1.length : Int) then (least_small.l0 k l1 (([rd l1 a0_3] : List Int)) 0 a0_0 a0_1 l0_2 a0_3 a0_4 0 a0_1 ([] : List (List Int)) 0 0) else (none)) else (none)
theorem least_small.mono_l : ∀ k,(∀ y0 y1 y2 y3 y4 y5 y6 y7 y8 y9 y10 y11 y12,LeO (least_small.l0 k y0 y1 y2 y3 y4 y5 y6 y7 y8 y9 y10 y11 y12) (least_small.l0 (k + 1) y0 y1 y2 y3 y4 y5 y6 y7 y8 y9 y10 y11 y12)) ∧ (∀ y0 y1 y2 y3 y4 y5 y6 y7 y8 y9 y10 y11 y12 y13 y14 y15,LeO (least_small.l1 k y0 y1 y2 y3 y4 y5 y6 y7 y8 y9 y10 y11 y12 y13 y14 y15) (least_small.l1 (k + 1) y0 y1 y2 y3 y4 y5 y6 y7 y8 y9 y10 y11 y12 y13 y14 y15))
 | 0=>⟨fun _ _ _ _ _ _ _ _ _ _ _ _ _ r h=>by simp [least_small.l0] at h,fun _ _ _ _ _ _ _ _ _ _ _ _ _ _ _ _ r h=>by simp [least_small.l1] at h⟩
 | k + 1=>by
  obtain ⟨ih0,ih1⟩:=least_small.mono_l k
  refine ⟨?_,?_⟩
  ·intro y0 y1 y2 y3 y4 y5 y6 y7 y8 y9 y10 y11 y12
   unfold least_small.l0
   repeat' first
   | (with_reducible exact ih0 _ _ _ _ _ _ _ _ _ _ _ _ _)
   | (with_reducible exact ih1 _ _ _ _ _ _ _ _ _ _ _ _ _ _ _ _)
   | (with_reducible exact slices_Index_int_int.mono _ _ _)
   | (with_reducible exact LeO.refl _)
   | (with_reducible exact LeO.none _)
   | (with_reducible refine LeO.ite ?_ ?_)
   | (with_reducible refine LeO.bind ?_ (fun _=>?_))
   | exact ih0 _ _ _ _ _ _ _ _ _ _ _ _ _
   | exact ih1 _ _ _ _ _ _ _ _ _ _ _ _ _ _ _ _
   | exact slices_Index_int_int.mono _ _ _
   | exact LeO.none _
   | refine LeO.ite ?_ ?_
   | refine LeO.bind ?_ (fun _=>?_)
  ·intro y0 y1 y2 y3 y4 y5 y6 y7 y8 y9 y10 y11 y12 y13 y14 y15
   unfold least_small.l1
   repeat' first
   | (with_reducible exact ih0 _ _ _ _ _ _ _ _ _ _ _ _ _)
   | (with_reducible exact ih1 _ _ _ _ _ _ _ _ _ _ _ _ _ _ _ _)
   | (with_reducible exact slices_Index_int_int.mono _ _ _)
   | (with_reducible exact LeO.refl _)
   | (with_reducible exact LeO.none _)
   | (with_reducible refine LeO.ite ?_ ?_)
   | (with_reducible refine LeO.bind ?_ (fun _=>?_))
   | exact ih0 _ _ _ _ _ _ _ _ _ _ _ _ _
   | exact ih1 _ _ _ _ _ _ _ _ _ _ _ _ _ _ _ _
   | exact slices_Index_int_int.mono _ _ _
   | exact LeO.none _
   | refine LeO.ite ?_ ?_
   | refine LeO.bind ?_ (fun _=>?_)
theorem least_small.mono : ∀ a0 a1 a2 a3 a4 a5 k,LeO (least_small.f k a0 a1 a2 a3 a4 a5) (least_small.f (k + 1) a0 a1 a2 a3 a4 a5):=by
 intro a0 a1 a2 a3 a4 a5 k
 obtain ⟨ih0,ih1⟩:=least_small.mono_l k
 unfold least_small.f
 repeat' first
   | (with_reducible exact ih0 _ _ _ _ _ _ _ _ _ _ _ _ _)
   | (with_reducible exact ih1 _ _ _ _ _ _ _ _ _ _ _ _ _ _ _ _)
   | (with_reducible exact slices_Index_int_int.mono _ _ _)
   | (with_reducible exact LeO.refl _)
   | (with_reducible exact LeO.none _)
   | (with_reducible refine LeO.ite ?_ ?_)
   | (with_reducible refine LeO.bind ?_ (fun _=>?_))
   | exact ih0 _ _ _ _ _ _ _ _ _ _ _ _ _
   | exact ih1 _ _ _ _ _ _ _ _ _ _ _ _ _ _ _ _
   | exact slices_Index_int_int.mono _ _ _
   | exact LeO.none _
   | refine LeO.ite ?_ ?_
   | refine LeO.bind ?_ (fun _=>?_)
theorem qDs6_ {p q : Prop} (H : q) (h : q → p:=by intro h_;(with_reducible repeat (first|refine blk_drewN ?_ _|refine blk_drew ?_|refine blk_alloc ?_ _));exact h_) : p:=h H
theorem qRs6_ {p q : Prop} (H : q) (h : q → p:=by intro h_;(with_reducible repeat (first|apply Kd.R_alloc|apply Kd.R_drewN|apply Kd.R_drew));exact h_) : p:=h H
theorem qBs6_2 {p : Prop} (h : p:=by repeat (first|(with_reducible first|exact HB.out|apply below_alloc|apply pw_below_drewN|apply below_drew1)|exact HB.out)) : p:=h
theorem qBs6_3 {p : Prop} (h : p:=by repeat (first|(with_reducible first|exact HB.out|apply below_alloc|apply pw_below_drewN|apply below_drew1|refine below_set ?_ Ay.out)|exact HB.out)) : p:=h
theorem qBs6_4 {p : Prop} (h : p:=by repeat (first|(with_reducible first|exact HB.out|apply below_alloc|apply pw_below_drewN|apply below_drew1|refine below_set ?_ Ay.out|refine below_set ?_ Az.out)|exact HB.out)) : p:=h
theorem qBs6_5 {p : Prop} (h : p:=by repeat (first|(with_reducible first|exact HB.out|apply below_alloc|apply pw_below_drewN|apply below_drew1|refine below_set ?_ Ay.out|refine below_set ?_ Az.out|refine below_set ?_ A0.out)|exact HB.out)) : p:=h
theorem qAs6_6 {p : Prop} (h : p:=by first|(with_reducible assumption)|assumption) : p:=h
set_option maxHeartbeats 8000000 in
set_option maxRecDepth 100000 in
theorem least_small.calls (k : Nat) (a0_0 : Int) (a0_1 : Int) (A0_2 : Option Addr) (c0_2 : Nat) (l0_2 : List (List Int)) (a0_3 : Int) (a0_4 : Int) (A1 : Option Addr) (c1 : Nat) (l1 : List Int) (r1 : Int) (r2 : Int) (r3 : List (List Int)) (r4 : Int) (r5 : Int) (r6 : List Int) (w : World) (hr0_2 : Kd.C (Kd.slice 3 (Kd.int .i64)) w A0_2 l0_2.length l0_2) (hc0_2 : l0_2.length ≤ c0_2) (hr1 : Kd.C (Kd.int .i64) w A1 l1.length l1) (hc1 : l1.length ≤ c1) (h : least_small.f k a0_0 a0_1 l0_2 a0_3 a0_4 l1 = some (r1,r2,r3,r4,r5,r6)) :
  Calls Try.prog 118 #[.agg #[.int .i64 a0_0,.int .i64 a0_1,.slice A0_2 l0_2.length c0_2,.int .i64 a0_3,.int .u32 a0_4],.slice A1 l1.length c1] w fun e w'=>∃ v2_ v5_ : Value,e = .returned (.tuple #[.agg #[.int .i64 r1,.int .i64 r2,v2_,.int .i64 r4,.int .u32 r5],v5_]) ∧ Kd.S (Kd.slice 3 (Kd.int .i64)) 23 w' w.heap.size (fun k_=>some k_ ≠ (v5_ : Value).ownBlock) v2_ r3 ∧ Kd.R (Kd.int .i64) 3 w' w.heap.size (fun _=>True) v5_ r6 ∧ Below w.heap.size w w':=by
 have hu63:=Try.underlying63
 have HR0_2:=Aside0.mk hr0_2
 have HC0_2:=Aside0.mk hc0_2
 clear hr0_2 hc0_2
 have HR1:=Aside0.mk hr1
 have HC1:=Aside0.mk hc1
 clear hr1 hc1
 have HB:=Aside0.mk (Below.refl w.heap.size w)
 have H : (if 0 ≤ a0_3 then (if a0_3 < (l1.length : Int) then (least_small.l0 k l1 (([rd l1 a0_3] : List Int)) 0 a0_0 a0_1 l0_2 a0_3 a0_4 0 a0_1 ([] : List (List Int)) 0 0) else (none)) else (none)) = some (r1,r2,r3,r4,r5,r6):=h
 clear h
 by_cases c3 : 0 ≤ a0_3
 ·rw [if_pos c3] at H
  have c3b0 : decide (0 ≤ a0_3) = true:=decide_eq_true c3
  clear c3
  by_cases c4 : a0_3 < (l1.length : Int)
  ·rw [if_pos c4] at H
   have c4b0 : decide (a0_3 < (l1.length : Int)) = true:=decide_eq_true c4
   clear c4
   obtain ⟨y121,hy121⟩ : ∃ y_ : List Int,y_ = (([rd l1 a0_3] : List Int)):=⟨_,rfl⟩
   replace H : (least_small.l0 k l1 y121 0 a0_0 a0_1 l0_2 a0_3 a0_4 0 a0_1 ([] : List (List Int)) 0 0) = some (r1,r2,r3,r4,r5,r6):=by first|(rw [hy121];with_reducible exact H)|(have H2_:=(Option.bind_some _ _).symm.trans H;rw [hy121];with_reducible exact H2_)|(have H2_:=(Option.bind_some _ _).symm.trans H;with_reducible exact H2_)|with_reducible exact H|(rw [hy121];exact H)|exact H
   have Ny121:=Aside0.mk hy121
   clear hy121
   have H':=Aside0.mk H
   clear H
   go_enter Try.func118,Try.ntmps118
   go_wp2_with (first|((with_reducible refine gate_dst (N:=2) rfl ?_);refine box_event ?hg (N:=2) ?hd (cs:=#[.int .i64 a0_0,.int .i64 a0_1,.slice A0_2 l0_2.length c0_2,.int .i64 a0_3,.int .u32 a0_4]) (t:=63) ?hr ?_;(case hd=>rfl);(case hg=>rfl);(case hr=>first|(go_simp;done)|(go_simp;rfl));intro gb118 hg w5 hbox hb;have n0_:=Aside0.mk (below_step qBs6_2 hb);have n1_:=Aside0.mk (hbox);have n2_:=Aside0.mk ((by rw [hg];exact (below_size qBs6_2) : w.heap.size ≤ gb118));have n3_:=Aside0.mk ((by rw [hg];exact (below_size qBs6_2) : w.heap.size ≤ gb118));clear HB;have HB:=n0_;have Aa:=n1_;have GW118:=n2_;have Ay:=n3_;clear n0_ n1_ n2_ n3_;clear hb hbox hg)|((with_reducible refine gate_dst (N:=4) rfl ?_);refine box_event ?hg (N:=4) ?hd (cs:=#[.int .i64 0,.int .i64 0,.slice none 0 0,.int .i64 0,.int .u32 0]) (t:=63) ?hr ?_;(case hd=>rfl);(case hg=>rfl);(case hr=>first|(go_simp;done)|(go_simp;rfl));intro Af hg w6 hbox hb;have n0_:=Aside0.mk (blk_below (g:=gb118) (o:=.cells #[.int .i64 a0_0,.int .i64 a0_1,.slice A0_2 l0_2.length c0_2,.int .i64 a0_3,.int .u32 a0_4] 63 (0,0)) (qDs6_ Aa.out) hb);have n1_:=Aside0.mk (below_step qBs6_3 hb);have n2_:=Aside0.mk (hbox);have n3_:=Aside0.mk ((by rw [hg];exact (below_size qBs6_3) : w.heap.size ≤ Af));have n4_:=Aside0.mk ((by rw [hg];exact (below_size qBs6_3) : w.heap.size ≤ Af));have n5_:=Aside0.mk ((by rw [hg];exact Nat.ne_of_lt (blk_lt (g:=gb118) (o:=.cells #[.int .i64 a0_0,.int .i64 a0_1,.slice A0_2 l0_2.length c0_2,.int .i64 a0_3,.int .u32 a0_4] 63 (0,0)) (qDs6_ Aa.out)) : gb118 ≠ Af));have n6_:=Aside0.mk ((by rw [hg];exact Nat.ne_of_gt (blk_lt (g:=gb118) (o:=.cells #[.int .i64 a0_0,.int .i64 a0_1,.slice A0_2 l0_2.length c0_2,.int .i64 a0_3,.int .u32 a0_4] 63 (0,0)) (qDs6_ Aa.out)) : Af ≠ gb118));clear Aa;clear HB;have Aa:=n0_;have HB:=n1_;have Ad:=n2_;have GW119:=n3_;have Az:=n4_;have Aq:=n5_;have Ar:=n6_;clear n0_ n1_ n2_ n3_ n4_ n5_ n6_;clear hb hbox hg;have hnb7:=Aq.out;have hnc7:=Ar.out;have hcz8_0 : w6.cell? ⟨gb118,0,none⟩ = some (.int .i64 a0_0):=(blk_cell Aa.out 0).trans rfl;have hcz8_1 : w6.cell? ⟨gb118,1,none⟩ = some (.int .i64 a0_1):=(blk_cell Aa.out 1).trans rfl;have hcz8_2 : w6.cell? ⟨gb118,2,none⟩ = some (.slice A0_2 l0_2.length c0_2):=(blk_cell Aa.out 2).trans rfl;have hcz8_3 : w6.cell? ⟨gb118,3,none⟩ = some (.int .i64 a0_3):=(blk_cell Aa.out 3).trans rfl;have hcz8_4 : w6.cell? ⟨gb118,4,none⟩ = some (.int .u32 a0_4):=(blk_cell Aa.out 4).trans rfl;have hfz8_0:=blk_frozen Aa.out 0;have hfz8_1:=blk_frozen Aa.out 1;have hfz8_2:=blk_frozen Aa.out 2;have hfz8_3:=blk_frozen Aa.out 3;have hfz8_4:=blk_frozen Aa.out 4;have p120 : 0 ≤ (a0_3 : Int):=of_decide_eq_true qAs6_6;have q120 : a0_3 < (l1.length : Int):=of_decide_eq_true qAs6_6;obtain ⟨ad120,e120,hx120_0⟩:=Kd.at_int HR1.out a0_3 p120 q120;cases e120;replace hx120_0:=(HB.out.cell (World.block_lt_of_cell? w _ hx120_0)).trans hx120_0;replace p120:=eq_true p120;replace q120:=eq_true q120)|((with_reducible refine gate_dst (N:=18) rfl ?_);refine Kd.R_lit (Kd.int .i64) _ 3 ?hg (N:=18) ?hd (xs:=([rd l1 a0_3] : List Int)) (inner:=[.int .i64 (rd l1 a0_3)]) (ok:=fun _=>True) (okp:=fun _=>True) ?hr ?hp (fun _ hk=>hk) trivial (Below.refl _ _) (Nat.le_refl _) (by simp) ?_;(case hd=>rfl);(case hg=>rfl);(case hr=>first|(go_simp;done)|(go_simp;rfl));(case hp=>exact (Reps.one (show Kd.M (Kd.int .i64) _ _ _ (rd l1 a0_3) [.int .i64 (rd l1 a0_3)] from rfl) (Reps.none _ _)));intro v122 w9 ho10 hb hg_ hnew_;clear hg_ hnew_;(first|rw [← Ny121.out] at ho10|(simp only [Int.reduceToNat] at ho10;rw [← Ny121.out] at ho10));have n0_:=Aside0.mk (Kd.R_lower ho10 (below_size qBs6_4));have n1_:=Aside0.mk (blk_below (g:=gb118) (o:=.cells #[.int .i64 a0_0,.int .i64 a0_1,.slice A0_2 l0_2.length c0_2,.int .i64 a0_3,.int .u32 a0_4] 63 (0,0)) (qDs6_ Aa.out) hb);have n2_:=Aside0.mk (blk_below (g:=Af) (o:=.cells #[.int .i64 0,.int .i64 0,.slice none 0 0,.int .i64 0,.int .u32 0] 63 (0,0)) (qDs6_ Ad.out) hb);have n3_:=Aside0.mk (below_step qBs6_4 hb);clear Aa;clear Ad;clear HB;have Av:=n0_;have Aa:=n1_;have Ad:=n2_;have HB:=n3_;clear n0_ n1_ n2_ n3_;clear hb ho10;have A2 : w9.cell? ⟨gb118,0,none⟩ = some (.int .i64 a0_0):=(blk_cell Aa.out 0).trans rfl;have A3 : w9.cell? ⟨gb118,1,none⟩ = some (.int .i64 a0_1):=(blk_cell Aa.out 1).trans rfl;have A4 : w9.cell? ⟨gb118,2,none⟩ = some (.slice A0_2 l0_2.length c0_2):=(blk_cell Aa.out 2).trans rfl;have A5 : w9.cell? ⟨gb118,3,none⟩ = some (.int .i64 a0_3):=(blk_cell Aa.out 3).trans rfl;have A6 : w9.cell? ⟨gb118,4,none⟩ = some (.int .u32 a0_4):=(blk_cell Aa.out 4).trans rfl;have A7:=blk_frozen Aa.out 0;have A8:=blk_frozen Aa.out 1;have A9:=blk_frozen Aa.out 2;have Ba:=blk_frozen Aa.out 3;have Bb:=blk_frozen Aa.out 4)|((with_reducible refine gate_dst (N:=7) rfl ?_);refine box_event ?hg (N:=7) ?hd (cs:=#[.int .i64 0,.int .i64 0,.slice none 0 0,.int .i64 0,.int .u32 0]) (t:=63) ?hr ?_;(case hd=>rfl);(case hg=>rfl);(case hr=>first|(go_simp;done)|(go_simp;rfl));intro Ae hg w12 hbox hb;have n0_:=Aside0.mk (Kd.R_below (qRs6_ Av.out) hb);have n1_:=Aside0.mk (blk_below (g:=gb118) (o:=.cells #[.int .i64 a0_0,.int .i64 a0_1,.slice A0_2 l0_2.length c0_2,.int .i64 a0_3,.int .u32 a0_4] 63 (0,0)) (qDs6_ Aa.out) hb);have n2_:=Aside0.mk (blk_below (g:=Af) (o:=.cells #[.int .i64 0,.int .i64 0,.slice none 0 0,.int .i64 0,.int .u32 0] 63 (0,0)) (qDs6_ Ad.out) hb);have n3_:=Aside0.mk (below_step qBs6_4 hb);have n4_:=Aside0.mk (hbox);have n5_:=Aside0.mk ((by rw [hg];exact (below_size qBs6_4) : w.heap.size ≤ Ae));have n6_:=Aside0.mk ((by rw [hg];exact (below_size qBs6_4) : w.heap.size ≤ Ae));have n7_:=Aside0.mk ((by rw [hg];exact Nat.ne_of_lt (blk_lt (g:=gb118) (o:=.cells #[.int .i64 a0_0,.int .i64 a0_1,.slice A0_2 l0_2.length c0_2,.int .i64 a0_3,.int .u32 a0_4] 63 (0,0)) (qDs6_ Aa.out)) : gb118 ≠ Ae));have n8_:=Aside0.mk ((by rw [hg];exact Nat.ne_of_gt (blk_lt (g:=gb118) (o:=.cells #[.int .i64 a0_0,.int .i64 a0_1,.slice A0_2 l0_2.length c0_2,.int .i64 a0_3,.int .u32 a0_4] 63 (0,0)) (qDs6_ Aa.out)) : Ae ≠ gb118));have n9_:=Aside0.mk ((by rw [hg];exact Nat.ne_of_lt (blk_lt (g:=Af) (o:=.cells #[.int .i64 0,.int .i64 0,.slice none 0 0,.int .i64 0,.int .u32 0] 63 (0,0)) (qDs6_ Ad.out)) : Af ≠ Ae));have n10_:=Aside0.mk ((by rw [hg];exact Nat.ne_of_gt (blk_lt (g:=Af) (o:=.cells #[.int .i64 0,.int .i64 0,.slice none 0 0,.int .i64 0,.int .u32 0] 63 (0,0)) (qDs6_ Ad.out)) : Ae ≠ Af));clear Av;clear Aa;clear Ad;clear HB;have Av:=n0_;have Aa:=n1_;have Ad:=n2_;have HB:=n3_;have Ab:=n4_;have GW124:=n5_;have A0:=n6_;have Am:=n7_;have Ap:=n8_;have Ao:=n9_;have At:=n10_;clear n0_ n1_ n2_ n3_ n4_ n5_ n6_ n7_ n8_ n9_ n10_;clear hb hbox hg;have hnb13:=Ap.out;have hnc13:=Am.out;have hnb14:=At.out;have hnc14:=Ao.out;have Bc : w12.cell? ⟨Ae,0,none⟩ = some (.int .i64 0):=(blk_cell Ab.out 0).trans rfl;have Bd : w12.cell? ⟨Ae,1,none⟩ = some (.int .i64 0):=(blk_cell Ab.out 1).trans rfl;have Be : w12.cell? ⟨Ae,2,none⟩ = some (.slice none 0 0):=(blk_cell Ab.out 2).trans rfl;have Bf : w12.cell? ⟨Ae,3,none⟩ = some (.int .i64 0):=(blk_cell Ab.out 3).trans rfl;have Bg : w12.cell? ⟨Ae,4,none⟩ = some (.int .u32 0):=(blk_cell Ab.out 4).trans rfl;have Bh:=blk_frozen Ab.out 0;have Bi:=blk_frozen Ab.out 1;have Bj:=blk_frozen Ab.out 2;have Bk:=blk_frozen Ab.out 3;have Bl:=blk_frozen Ab.out 4))
   repeat (go_quiet (first|((with_reducible refine gate_dst (N:=2) rfl ?_);refine box_event ?hg (N:=2) ?hd (cs:=#[.int .i64 a0_0,.int .i64 a0_1,.slice A0_2 l0_2.length c0_2,.int .i64 a0_3,.int .u32 a0_4]) (t:=63) ?hr ?_;(case hd=>rfl);(case hg=>rfl);(case hr=>first|(go_simp;done)|(go_simp;rfl));intro gb118 hg w5 hbox hb;have n0_:=Aside0.mk (below_step qBs6_2 hb);have n1_:=Aside0.mk (hbox);have n2_:=Aside0.mk ((by rw [hg];exact (below_size qBs6_2) : w.heap.size ≤ gb118));have n3_:=Aside0.mk ((by rw [hg];exact (below_size qBs6_2) : w.heap.size ≤ gb118));clear HB;have HB:=n0_;have Aa:=n1_;have GW118:=n2_;have Ay:=n3_;clear n0_ n1_ n2_ n3_;clear hb hbox hg)|((with_reducible refine gate_dst (N:=4) rfl ?_);refine box_event ?hg (N:=4) ?hd (cs:=#[.int .i64 0,.int .i64 0,.slice none 0 0,.int .i64 0,.int .u32 0]) (t:=63) ?hr ?_;(case hd=>rfl);(case hg=>rfl);(case hr=>first|(go_simp;done)|(go_simp;rfl));intro Af hg w6 hbox hb;have n0_:=Aside0.mk (blk_below (g:=gb118) (o:=.cells #[.int .i64 a0_0,.int .i64 a0_1,.slice A0_2 l0_2.length c0_2,.int .i64 a0_3,.int .u32 a0_4] 63 (0,0)) (qDs6_ Aa.out) hb);have n1_:=Aside0.mk (below_step qBs6_3 hb);have n2_:=Aside0.mk (hbox);have n3_:=Aside0.mk ((by rw [hg];exact (below_size qBs6_3) : w.heap.size ≤ Af));have n4_:=Aside0.mk ((by rw [hg];exact (below_size qBs6_3) : w.heap.size ≤ Af));have n5_:=Aside0.mk ((by rw [hg];exact Nat.ne_of_lt (blk_lt (g:=gb118) (o:=.cells #[.int .i64 a0_0,.int .i64 a0_1,.slice A0_2 l0_2.length c0_2,.int .i64 a0_3,.int .u32 a0_4] 63 (0,0)) (qDs6_ Aa.out)) : gb118 ≠ Af));have n6_:=Aside0.mk ((by rw [hg];exact Nat.ne_of_gt (blk_lt (g:=gb118) (o:=.cells #[.int .i64 a0_0,.int .i64 a0_1,.slice A0_2 l0_2.length c0_2,.int .i64 a0_3,.int .u32 a0_4] 63 (0,0)) (qDs6_ Aa.out)) : Af ≠ gb118));clear Aa;clear HB;have Aa:=n0_;have HB:=n1_;have Ad:=n2_;have GW119:=n3_;have Az:=n4_;have Aq:=n5_;have Ar:=n6_;clear n0_ n1_ n2_ n3_ n4_ n5_ n6_;clear hb hbox hg;have hnb7:=Aq.out;have hnc7:=Ar.out;have hcz8_0 : w6.cell? ⟨gb118,0,none⟩ = some (.int .i64 a0_0):=(blk_cell Aa.out 0).trans rfl;have hcz8_1 : w6.cell? ⟨gb118,1,none⟩ = some (.int .i64 a0_1):=(blk_cell Aa.out 1).trans rfl;have hcz8_2 : w6.cell? ⟨gb118,2,none⟩ = some (.slice A0_2 l0_2.length c0_2):=(blk_cell Aa.out 2).trans rfl;have hcz8_3 : w6.cell? ⟨gb118,3,none⟩ = some (.int .i64 a0_3):=(blk_cell Aa.out 3).trans rfl;have hcz8_4 : w6.cell? ⟨gb118,4,none⟩ = some (.int .u32 a0_4):=(blk_cell Aa.out 4).trans rfl;have hfz8_0:=blk_frozen Aa.out 0;have hfz8_1:=blk_frozen Aa.out 1;have hfz8_2:=blk_frozen Aa.out 2;have hfz8_3:=blk_frozen Aa.out 3;have hfz8_4:=blk_frozen Aa.out 4;have p120 : 0 ≤ (a0_3 : Int):=of_decide_eq_true qAs6_6;have q120 : a0_3 < (l1.length : Int):=of_decide_eq_true qAs6_6;obtain ⟨ad120,e120,hx120_0⟩:=Kd.at_int HR1.out a0_3 p120 q120;cases e120;replace hx120_0:=(HB.out.cell (World.block_lt_of_cell? w _ hx120_0)).trans hx120_0;replace p120:=eq_true p120;replace q120:=eq_true q120)|((with_reducible refine gate_dst (N:=18) rfl ?_);refine Kd.R_lit (Kd.int .i64) _ 3 ?hg (N:=18) ?hd (xs:=([rd l1 a0_3] : List Int)) (inner:=[.int .i64 (rd l1 a0_3)]) (ok:=fun _=>True) (okp:=fun _=>True) ?hr ?hp (fun _ hk=>hk) trivial (Below.refl _ _) (Nat.le_refl _) (by simp) ?_;(case hd=>rfl);(case hg=>rfl);(case hr=>first|(go_simp;done)|(go_simp;rfl));(case hp=>exact (Reps.one (show Kd.M (Kd.int .i64) _ _ _ (rd l1 a0_3) [.int .i64 (rd l1 a0_3)] from rfl) (Reps.none _ _)));intro v122 w9 ho10 hb hg_ hnew_;clear hg_ hnew_;(first|rw [← Ny121.out] at ho10|(simp only [Int.reduceToNat] at ho10;rw [← Ny121.out] at ho10));have n0_:=Aside0.mk (Kd.R_lower ho10 (below_size qBs6_4));have n1_:=Aside0.mk (blk_below (g:=gb118) (o:=.cells #[.int .i64 a0_0,.int .i64 a0_1,.slice A0_2 l0_2.length c0_2,.int .i64 a0_3,.int .u32 a0_4] 63 (0,0)) (qDs6_ Aa.out) hb);have n2_:=Aside0.mk (blk_below (g:=Af) (o:=.cells #[.int .i64 0,.int .i64 0,.slice none 0 0,.int .i64 0,.int .u32 0] 63 (0,0)) (qDs6_ Ad.out) hb);have n3_:=Aside0.mk (below_step qBs6_4 hb);clear Aa;clear Ad;clear HB;have Av:=n0_;have Aa:=n1_;have Ad:=n2_;have HB:=n3_;clear n0_ n1_ n2_ n3_;clear hb ho10;have A2 : w9.cell? ⟨gb118,0,none⟩ = some (.int .i64 a0_0):=(blk_cell Aa.out 0).trans rfl;have A3 : w9.cell? ⟨gb118,1,none⟩ = some (.int .i64 a0_1):=(blk_cell Aa.out 1).trans rfl;have A4 : w9.cell? ⟨gb118,2,none⟩ = some (.slice A0_2 l0_2.length c0_2):=(blk_cell Aa.out 2).trans rfl;have A5 : w9.cell? ⟨gb118,3,none⟩ = some (.int .i64 a0_3):=(blk_cell Aa.out 3).trans rfl;have A6 : w9.cell? ⟨gb118,4,none⟩ = some (.int .u32 a0_4):=(blk_cell Aa.out 4).trans rfl;have A7:=blk_frozen Aa.out 0;have A8:=blk_frozen Aa.out 1;have A9:=blk_frozen Aa.out 2;have Ba:=blk_frozen Aa.out 3;have Bb:=blk_frozen Aa.out 4)|((with_reducible refine gate_dst (N:=7) rfl ?_);refine box_event ?hg (N:=7) ?hd (cs:=#[.int .i64 0,.int .i64 0,.slice none 0 0,.int .i64 0,.int .u32 0]) (t:=63) ?hr ?_;(case hd=>rfl);(case hg=>rfl);(case hr=>first|(go_simp;done)|(go_simp;rfl));intro Ae hg w12 hbox hb;have n0_:=Aside0.mk (Kd.R_below (qRs6_ Av.out) hb);have n1_:=Aside0.mk (blk_below (g:=gb118) (o:=.cells #[.int .i64 a0_0,.int .i64 a0_1,.slice A0_2 l0_2.length c0_2,.int .i64 a0_3,.int .u32 a0_4] 63 (0,0)) (qDs6_ Aa.out) hb);have n2_:=Aside0.mk (blk_below (g:=Af) (o:=.cells #[.int .i64 0,.int .i64 0,.slice none 0 0,.int .i64 0,.int .u32 0] 63 (0,0)) (qDs6_ Ad.out) hb);have n3_:=Aside0.mk (below_step qBs6_4 hb);have n4_:=Aside0.mk (hbox);have n5_:=Aside0.mk ((by rw [hg];exact (below_size qBs6_4) : w.heap.size ≤ Ae));have n6_:=Aside0.mk ((by rw [hg];exact (below_size qBs6_4) : w.heap.size ≤ Ae));have n7_:=Aside0.mk ((by rw [hg];exact Nat.ne_of_lt (blk_lt (g:=gb118) (o:=.cells #[.int .i64 a0_0,.int .i64 a0_1,.slice A0_2 l0_2.length c0_2,.int .i64 a0_3,.int .u32 a0_4] 63 (0,0)) (qDs6_ Aa.out)) : gb118 ≠ Ae));have n8_:=Aside0.mk ((by rw [hg];exact Nat.ne_of_gt (blk_lt (g:=gb118) (o:=.cells #[.int .i64 a0_0,.int .i64 a0_1,.slice A0_2 l0_2.length c0_2,.int .i64 a0_3,.int .u32 a0_4] 63 (0,0)) (qDs6_ Aa.out)) : Ae ≠ gb118));have n9_:=Aside0.mk ((by rw [hg];exact Nat.ne_of_lt (blk_lt (g:=Af) (o:=.cells #[.int .i64 0,.int .i64 0,.slice none 0 0,.int .i64 0,.int .u32 0] 63 (0,0)) (qDs6_ Ad.out)) : Af ≠ Ae));have n10_:=Aside0.mk ((by rw [hg];exact Nat.ne_of_gt (blk_lt (g:=Af) (o:=.cells #[.int .i64 0,.int .i64 0,.slice none 0 0,.int .i64 0,.int .u32 0] 63 (0,0)) (qDs6_ Ad.out)) : Ae ≠ Af));clear Av;clear Aa;clear Ad;clear HB;have Av:=n0_;have Aa:=n1_;have Ad:=n2_;have HB:=n3_;have Ab:=n4_;have GW124:=n5_;have A0:=n6_;have Am:=n7_;have Ap:=n8_;have Ao:=n9_;have At:=n10_;clear n0_ n1_ n2_ n3_ n4_ n5_ n6_ n7_ n8_ n9_ n10_;clear hb hbox hg;have hnb13:=Ap.out;have hnc13:=Am.out;have hnb14:=At.out;have hnc14:=Ao.out;have Bc : w12.cell? ⟨Ae,0,none⟩ = some (.int .i64 0):=(blk_cell Ab.out 0).trans rfl;have Bd : w12.cell? ⟨Ae,1,none⟩ = some (.int .i64 0):=(blk_cell Ab.out 1).trans rfl;have Be : w12.cell? ⟨Ae,2,none⟩ = some (.slice none 0 0):=(blk_cell Ab.out 2).trans rfl;have Bf : w12.cell? ⟨Ae,3,none⟩ = some (.int .i64 0):=(blk_cell Ab.out 3).trans rfl;have Bg : w12.cell? ⟨Ae,4,none⟩ = some (.int .u32 0):=(blk_cell Ab.out 4).trans rfl;have Bh:=blk_frozen Ab.out 0;have Bi:=blk_frozen Ab.out 1;have Bj:=blk_frozen Ab.out 2;have Bk:=blk_frozen Ab.out 3;have Bl:=blk_frozen Ab.out 4));try go_wp2_with (first|((with_reducible refine gate_dst (N:=2) rfl ?_);refine box_event ?hg (N:=2) ?hd (cs:=#[.int .i64 a0_0,.int .i64 a0_1,.slice A0_2 l0_2.length c0_2,.int .i64 a0_3,.int .u32 a0_4]) (t:=63) ?hr ?_;(case hd=>rfl);(case hg=>rfl);(case hr=>first|(go_simp;done)|(go_simp;rfl));intro gb118 hg w5 hbox hb;have n0_:=Aside0.mk (below_step qBs6_2 hb);have n1_:=Aside0.mk (hbox);have n2_:=Aside0.mk ((by rw [hg];exact (below_size qBs6_2) : w.heap.size ≤ gb118));have n3_:=Aside0.mk ((by rw [hg];exact (below_size qBs6_2) : w.heap.size ≤ gb118));clear HB;have HB:=n0_;have Aa:=n1_;have GW118:=n2_;have Ay:=n3_;clear n0_ n1_ n2_ n3_;clear hb hbox hg)|((with_reducible refine gate_dst (N:=4) rfl ?_);refine box_event ?hg (N:=4) ?hd (cs:=#[.int .i64 0,.int .i64 0,.slice none 0 0,.int .i64 0,.int .u32 0]) (t:=63) ?hr ?_;(case hd=>rfl);(case hg=>rfl);(case hr=>first|(go_simp;done)|(go_simp;rfl));intro Af hg w6 hbox hb;have n0_:=Aside0.mk (blk_below (g:=gb118) (o:=.cells #[.int .i64 a0_0,.int .i64 a0_1,.slice A0_2 l0_2.length c0_2,.int .i64 a0_3,.int .u32 a0_4] 63 (0,0)) (qDs6_ Aa.out) hb);have n1_:=Aside0.mk (below_step qBs6_3 hb);have n2_:=Aside0.mk (hbox);have n3_:=Aside0.mk ((by rw [hg];exact (below_size qBs6_3) : w.heap.size ≤ Af));have n4_:=Aside0.mk ((by rw [hg];exact (below_size qBs6_3) : w.heap.size ≤ Af));have n5_:=Aside0.mk ((by rw [hg];exact Nat.ne_of_lt (blk_lt (g:=gb118) (o:=.cells #[.int .i64 a0_0,.int .i64 a0_1,.slice A0_2 l0_2.length c0_2,.int .i64 a0_3,.int .u32 a0_4] 63 (0,0)) (qDs6_ Aa.out)) : gb118 ≠ Af));have n6_:=Aside0.mk ((by rw [hg];exact Nat.ne_of_gt (blk_lt (g:=gb118) (o:=.cells #[.int .i64 a0_0,.int .i64 a0_1,.slice A0_2 l0_2.length c0_2,.int .i64 a0_3,.int .u32 a0_4] 63 (0,0)) (qDs6_ Aa.out)) : Af ≠ gb118));clear Aa;clear HB;have Aa:=n0_;have HB:=n1_;have Ad:=n2_;have GW119:=n3_;have Az:=n4_;have Aq:=n5_;have Ar:=n6_;clear n0_ n1_ n2_ n3_ n4_ n5_ n6_;clear hb hbox hg;have hnb7:=Aq.out;have hnc7:=Ar.out;have hcz8_0 : w6.cell? ⟨gb118,0,none⟩ = some (.int .i64 a0_0):=(blk_cell Aa.out 0).trans rfl;have hcz8_1 : w6.cell? ⟨gb118,1,none⟩ = some (.int .i64 a0_1):=(blk_cell Aa.out 1).trans rfl;have hcz8_2 : w6.cell? ⟨gb118,2,none⟩ = some (.slice A0_2 l0_2.length c0_2):=(blk_cell Aa.out 2).trans rfl;have hcz8_3 : w6.cell? ⟨gb118,3,none⟩ = some (.int .i64 a0_3):=(blk_cell Aa.out 3).trans rfl;have hcz8_4 : w6.cell? ⟨gb118,4,none⟩ = some (.int .u32 a0_4):=(blk_cell Aa.out 4).trans rfl;have hfz8_0:=blk_frozen Aa.out 0;have hfz8_1:=blk_frozen Aa.out 1;have hfz8_2:=blk_frozen Aa.out 2;have hfz8_3:=blk_frozen Aa.out 3;have hfz8_4:=blk_frozen Aa.out 4;have p120 : 0 ≤ (a0_3 : Int):=of_decide_eq_true qAs6_6;have q120 : a0_3 < (l1.length : Int):=of_decide_eq_true qAs6_6;obtain ⟨ad120,e120,hx120_0⟩:=Kd.at_int HR1.out a0_3 p120 q120;cases e120;replace hx120_0:=(HB.out.cell (World.block_lt_of_cell? w _ hx120_0)).trans hx120_0;replace p120:=eq_true p120;replace q120:=eq_true q120)|((with_reducible refine gate_dst (N:=18) rfl ?_);refine Kd.R_lit (Kd.int .i64) _ 3 ?hg (N:=18) ?hd (xs:=([rd l1 a0_3] : List Int)) (inner:=[.int .i64 (rd l1 a0_3)]) (ok:=fun _=>True) (okp:=fun _=>True) ?hr ?hp (fun _ hk=>hk) trivial (Below.refl _ _) (Nat.le_refl _) (by simp) ?_;(case hd=>rfl);(case hg=>rfl);(case hr=>first|(go_simp;done)|(go_simp;rfl));(case hp=>exact (Reps.one (show Kd.M (Kd.int .i64) _ _ _ (rd l1 a0_3) [.int .i64 (rd l1 a0_3)] from rfl) (Reps.none _ _)));intro v122 w9 ho10 hb hg_ hnew_;clear hg_ hnew_;(first|rw [← Ny121.out] at ho10|(simp only [Int.reduceToNat] at ho10;rw [← Ny121.out] at ho10));have n0_:=Aside0.mk (Kd.R_lower ho10 (below_size qBs6_4));have n1_:=Aside0.mk (blk_below (g:=gb118) (o:=.cells #[.int .i64 a0_0,.int .i64 a0_1,.slice A0_2 l0_2.length c0_2,.int .i64 a0_3,.int .u32 a0_4] 63 (0,0)) (qDs6_ Aa.out) hb);have n2_:=Aside0.mk (blk_below (g:=Af) (o:=.cells #[.int .i64 0,.int .i64 0,.slice none 0 0,.int .i64 0,.int .u32 0] 63 (0,0)) (qDs6_ Ad.out) hb);have n3_:=Aside0.mk (below_step qBs6_4 hb);clear Aa;clear Ad;clear HB;have Av:=n0_;have Aa:=n1_;have Ad:=n2_;have HB:=n3_;clear n0_ n1_ n2_ n3_;clear hb ho10;have A2 : w9.cell? ⟨gb118,0,none⟩ = some (.int .i64 a0_0):=(blk_cell Aa.out 0).trans rfl;have A3 : w9.cell? ⟨gb118,1,none⟩ = some (.int .i64 a0_1):=(blk_cell Aa.out 1).trans rfl;have A4 : w9.cell? ⟨gb118,2,none⟩ = some (.slice A0_2 l0_2.length c0_2):=(blk_cell Aa.out 2).trans rfl;have A5 : w9.cell? ⟨gb118,3,none⟩ = some (.int .i64 a0_3):=(blk_cell Aa.out 3).trans rfl;have A6 : w9.cell? ⟨gb118,4,none⟩ = some (.int .u32 a0_4):=(blk_cell Aa.out 4).trans rfl;have A7:=blk_frozen Aa.out 0;have A8:=blk_frozen Aa.out 1;have A9:=blk_frozen Aa.out 2;have Ba:=blk_frozen Aa.out 3;have Bb:=blk_frozen Aa.out 4)|((with_reducible refine gate_dst (N:=7) rfl ?_);refine box_event ?hg (N:=7) ?hd (cs:=#[.int .i64 0,.int .i64 0,.slice none 0 0,.int .i64 0,.int .u32 0]) (t:=63) ?hr ?_;(case hd=>rfl);(case hg=>rfl);(case hr=>first|(go_simp;done)|(go_simp;rfl));intro Ae hg w12 hbox hb;have n0_:=Aside0.mk (Kd.R_below (qRs6_ Av.out) hb);have n1_:=Aside0.mk (blk_below (g:=gb118) (o:=.cells #[.int .i64 a0_0,.int .i64 a0_1,.slice A0_2 l0_2.length c0_2,.int .i64 a0_3,.int .u32 a0_4] 63 (0,0)) (qDs6_ Aa.out) hb);have n2_:=Aside0.mk (blk_below (g:=Af) (o:=.cells #[.int .i64 0,.int .i64 0,.slice none 0 0,.int .i64 0,.int .u32 0] 63 (0,0)) (qDs6_ Ad.out) hb);have n3_:=Aside0.mk (below_step qBs6_4 hb);have n4_:=Aside0.mk (hbox);have n5_:=Aside0.mk ((by rw [hg];exact (below_size qBs6_4) : w.heap.size ≤ Ae));have n6_:=Aside0.mk ((by rw [hg];exact (below_size qBs6_4) : w.heap.size ≤ Ae));have n7_:=Aside0.mk ((by rw [hg];exact Nat.ne_of_lt (blk_lt (g:=gb118) (o:=.cells #[.int .i64 a0_0,.int .i64 a0_1,.slice A0_2 l0_2.length c0_2,.int .i64 a0_3,.int .u32 a0_4] 63 (0,0)) (qDs6_ Aa.out)) : gb118 ≠ Ae));have n8_:=Aside0.mk ((by rw [hg];exact Nat.ne_of_gt (blk_lt (g:=gb118) (o:=.cells #[.int .i64 a0_0,.int .i64 a0_1,.slice A0_2 l0_2.length c0_2,.int .i64 a0_3,.int .u32 a0_4] 63 (0,0)) (qDs6_ Aa.out)) : Ae ≠ gb118));have n9_:=Aside0.mk ((by rw [hg];exact Nat.ne_of_lt (blk_lt (g:=Af) (o:=.cells #[.int .i64 0,.int .i64 0,.slice none 0 0,.int .i64 0,.int .u32 0] 63 (0,0)) (qDs6_ Ad.out)) : Af ≠ Ae));have n10_:=Aside0.mk ((by rw [hg];exact Nat.ne_of_gt (blk_lt (g:=Af) (o:=.cells #[.int .i64 0,.int .i64 0,.slice none 0 0,.int .i64 0,.int .u32 0] 63 (0,0)) (qDs6_ Ad.out)) : Ae ≠ Af));clear Av;clear Aa;clear Ad;clear HB;have Av:=n0_;have Aa:=n1_;have Ad:=n2_;have HB:=n3_;have Ab:=n4_;have GW124:=n5_;have A0:=n6_;have Am:=n7_;have Ap:=n8_;have Ao:=n9_;have At:=n10_;clear n0_ n1_ n2_ n3_ n4_ n5_ n6_ n7_ n8_ n9_ n10_;clear hb hbox hg;have hnb13:=Ap.out;have hnc13:=Am.out;have hnb14:=At.out;have hnc14:=Ao.out;have Bc : w12.cell? ⟨Ae,0,none⟩ = some (.int .i64 0):=(blk_cell Ab.out 0).trans rfl;have Bd : w12.cell? ⟨Ae,1,none⟩ = some (.int .i64 0):=(blk_cell Ab.out 1).trans rfl;have Be : w12.cell? ⟨Ae,2,none⟩ = some (.slice none 0 0):=(blk_cell Ab.out 2).trans rfl;have Bf : w12.cell? ⟨Ae,3,none⟩ = some (.int .i64 0):=(blk_cell Ab.out 3).trans rfl;have Bg : w12.cell? ⟨Ae,4,none⟩ = some (.int .u32 0):=(blk_cell Ab.out 4).trans rfl;have Bh:=blk_frozen Ab.out 0;have Bi:=blk_frozen Ab.out 1;have Bj:=blk_frozen Ab.out 2;have Bk:=blk_frozen Ab.out 3;have Bl:=blk_frozen Ab.out 4)))
   go_loopg [6,8] k (fun kq v6 v8 w'=>∃ (Ax : List Int) (Ak : Int) (Ai : List (List Int)) (Ag : Value),v8 = .int .i64 Ak ∧ Aside0 (least_small.l0 kq l1 Ax Ak a0_0 a0_1 l0_2 a0_3 a0_4 0 a0_1 Ai 0 0 = some (r1,r2,r3,r4,r5,r6)) ∧ Aside0 (kq ≤ k) ∧ Aside0 (Kd.R (Kd.int .i64) 3 w' w.heap.size (fun _=>True) v6 Ax) ∧ Aside0 (Kd.S (Kd.slice 3 (Kd.int .i64)) 23 w' w.heap.size (fun k_=>some k_ ≠ (v6 : Value).ownBlock) Ag Ai) ∧ Aside0 (w'.heap[gb118]? = some (.cells #[.int .i64 a0_0,.int .i64 a0_1,(.slice A0_2 l0_2.length c0_2),.int .i64 a0_3,.int .u32 a0_4] 63 (0,0))) ∧ Aside0 (w'.heap[Af]? = some (.cells #[.int .i64 0,.int .i64 0,(.slice none 0 0),.int .i64 0,.int .u32 0] 63 (0,0))) ∧ Aside0 (w'.heap[Ae]? = some (.cells #[.int .i64 0,.int .i64 a0_1,Ag,.int .i64 0,.int .u32 0] 63 (0,0))) ∧ Aside0 (Below w.heap.size w w'))
   case atStart=>exact ⟨(y121),(0),(([] : List (List Int))),(.slice none 0 0),(by first|rfl|(simp;done)|(simp [*];done)),H',⟨Nat.le_refl _⟩,⟨by (with_reducible repeat (first|apply Kd.R_alloc|apply Kd.R_drewN|apply Kd.R_drew));exact Kd.R_mono (Kd.R_far (p:=⟨Ae,4,none⟩) (Kd.R_far (p:=⟨Ae,3,none⟩) (Kd.R_far (p:=⟨Ae,2,none⟩) (Kd.R_far (p:=⟨Ae,1,none⟩) (Kd.R_far (p:=⟨Ae,0,none⟩) (Kd.R_types Av.out Ab.out (by decide)) (fun _ hk=>hk.2) (.int .i64 0)) (fun _ hk=>hk.2) (.int .i64 a0_1)) (fun _ hk=>hk.2) (.slice none 0 0)) (fun _ hk=>hk.2) (.int .i64 0)) (fun _ hk=>hk.2) (.int .u32 0)) (fun _ hk=>trivial)⟩,⟨by first|exact Kd.S_nil _ _ _ _ _|exact Kd.N_nil _ _ _ _ _|exact Kd.V_nil _ _ _ _ _|exact Kd.Q_nil _ _ _ _ _|exact Kd.R_nil _ _ _ _ _⟩,⟨by (with_reducible repeat (first|refine blk_drewN ?_ _|refine blk_drew ?_|refine blk_alloc ?_ _));refine blk_far ?_ Am.out _;(with_reducible repeat (first|refine blk_drewN ?_ _|refine blk_drew ?_|refine blk_alloc ?_ _));refine blk_far ?_ Am.out _;(with_reducible repeat (first|refine blk_drewN ?_ _|refine blk_drew ?_|refine blk_alloc ?_ _));refine blk_far ?_ Am.out _;(with_reducible repeat (first|refine blk_drewN ?_ _|refine blk_drew ?_|refine blk_alloc ?_ _));refine blk_far ?_ Am.out _;(with_reducible repeat (first|refine blk_drewN ?_ _|refine blk_drew ?_|refine blk_alloc ?_ _));refine blk_far ?_ Am.out _;(with_reducible repeat (first|refine blk_drewN ?_ _|refine blk_drew ?_|refine blk_alloc ?_ _));exact Aa.out⟩,⟨by (with_reducible repeat (first|refine blk_drewN ?_ _|refine blk_drew ?_|refine blk_alloc ?_ _));refine blk_far ?_ Ao.out _;(with_reducible repeat (first|refine blk_drewN ?_ _|refine blk_drew ?_|refine blk_alloc ?_ _));refine blk_far ?_ Ao.out _;(with_reducible repeat (first|refine blk_drewN ?_ _|refine blk_drew ?_|refine blk_alloc ?_ _));refine blk_far ?_ Ao.out _;(with_reducible repeat (first|refine blk_drewN ?_ _|refine blk_drew ?_|refine blk_alloc ?_ _));refine blk_far ?_ Ao.out _;(with_reducible repeat (first|refine blk_drewN ?_ _|refine blk_drew ?_|refine blk_alloc ?_ _));refine blk_far ?_ Ao.out _;(with_reducible repeat (first|refine blk_drewN ?_ _|refine blk_drew ?_|refine blk_alloc ?_ _));exact Ad.out⟩,⟨by (with_reducible repeat (first|refine blk_drewN ?_ _|refine blk_drew ?_|refine blk_alloc ?_ _));refine blk_put (cs:=#[.int .i64 0,.int .i64 a0_1,.slice none 0 0,.int .i64 0,.int .u32 0]) ?_ 4 _ rfl;(with_reducible repeat (first|refine blk_drewN ?_ _|refine blk_drew ?_|refine blk_alloc ?_ _));refine blk_put (cs:=#[.int .i64 0,.int .i64 a0_1,.slice none 0 0,.int .i64 0,.int .u32 0]) ?_ 3 _ rfl;(with_reducible repeat (first|refine blk_drewN ?_ _|refine blk_drew ?_|refine blk_alloc ?_ _));refine blk_put (cs:=#[.int .i64 0,.int .i64 a0_1,.slice none 0 0,.int .i64 0,.int .u32 0]) ?_ 2 _ rfl;(with_reducible repeat (first|refine blk_drewN ?_ _|refine blk_drew ?_|refine blk_alloc ?_ _));refine blk_put (cs:=#[.int .i64 0,.int .i64 0,.slice none 0 0,.int .i64 0,.int .u32 0]) ?_ 1 _ rfl;(with_reducible repeat (first|refine blk_drewN ?_ _|refine blk_drew ?_|refine blk_alloc ?_ _));refine blk_put (cs:=#[.int .i64 0,.int .i64 0,.slice none 0 0,.int .i64 0,.int .u32 0]) ?_ 0 _ rfl;(with_reducible repeat (first|refine blk_drewN ?_ _|refine blk_drew ?_|refine blk_alloc ?_ _));exact Ab.out⟩,⟨by repeat (first|(with_reducible first|exact HB.out|apply below_alloc|apply pw_below_drewN|apply below_drew1|refine below_set ?_ Ay.out|refine below_set ?_ Az.out|refine below_set ?_ A0.out)|exact HB.out)⟩⟩
   case round =>
    clear H'
    try clear c1
    try clear p1
    try clear q1
    try clear hx1
    try clear p2
    try clear c3
    try clear c3b0
    try clear c4
    try clear c4b0
    try clear c7
    try clear c11
    try clear p12
    try clear q12
    try clear hx12
    try clear c13
    try clear c14
    try clear A2
    try clear A3
    try clear A4
    try clear A5
    try clear A6
    try clear Bc
    try clear Bd
    try clear Be
    try clear Bf
    try clear Bg
    try clear hcz8_0
    try clear hcz8_1
    try clear hcz8_2
    try clear hcz8_3
    try clear hcz8_4
    try clear A7
    try clear A8
    try clear A9
    try clear Ba
    try clear Bb
    try clear Bh
    try clear Bi
    try clear Bj
    try clear Bk
    try clear Bl
    try clear hfz8_0
    try clear hfz8_1
    try clear hfz8_2
    try clear hfz8_3
    try clear hfz8_4
    try clear hx120_0
    try clear p120
    try clear q120
    obtain ⟨Ax,Ak,Ai,Ag,rfl,HA,HK1,Al,Ac,Aa,Ad,Ab,HB⟩:=hrel
    cases gk with
    | zero=>exact absurd HA.out (by simp [least_small.l0])
    | succ k1 =>
     have H:=HA.out
     clear HA
     simp only [least_small.l0] at H
     by_cases c16 : Ak < (Ax.length : Int)
     ·rw [if_pos c16] at H
      have c16b0 : decide (Ak < (Ax.length : Int)) = true:=decide_eq_true c16
      clear c16
      have H':=Aside0.mk H
      clear H
      obtain ⟨Ao17,co17,eo17⟩:=Kd.R_slice Al.out
      subst eo17
      have hnb18:=Aq.out
      have hnc18:=Ar.out
      have hnb19:=Am.out
      have hnc19:=Ap.out
      have hcz20_0 : wr.cell? ⟨gb118,0,none⟩ = some (.int .i64 a0_0):=(blk_cell Aa.out 0).trans rfl
      have hcz20_1 : wr.cell? ⟨gb118,1,none⟩ = some (.int .i64 a0_1):=(blk_cell Aa.out 1).trans rfl
      have hcz20_2 : wr.cell? ⟨gb118,2,none⟩ = some (.slice A0_2 l0_2.length c0_2):=(blk_cell Aa.out 2).trans rfl
      have hcz20_3 : wr.cell? ⟨gb118,3,none⟩ = some (.int .i64 a0_3):=(blk_cell Aa.out 3).trans rfl
      have hcz20_4 : wr.cell? ⟨gb118,4,none⟩ = some (.int .u32 a0_4):=(blk_cell Aa.out 4).trans rfl
      have hfz20_0:=blk_frozen Aa.out 0
      have hfz20_1:=blk_frozen Aa.out 1
      have hfz20_2:=blk_frozen Aa.out 2
      have hfz20_3:=blk_frozen Aa.out 3
      have hfz20_4:=blk_frozen Aa.out 4
      go_wp2
      repeat (go_quiet (fail);try go_wp2)
      go_loopg [6,9,30] k1 (fun kq v6 v9 v30 w'=>∃ (Ah : List Int) (As : List Int) (Aj : Int),v30 = .int .i64 Aj ∧ Aside0 (least_small.l1 kq l1 Ah Ak As a0_1 Aj a0_0 a0_1 l0_2 a0_3 a0_4 0 a0_1 Ai 0 0 = some (r1,r2,r3,r4,r5,r6)) ∧ Aside0 (kq ≤ k1) ∧ Aside0 (Kd.R (Kd.int .i64) 3 w' w.heap.size (fun k_=>some k_ ≠ (v9 : Value).ownBlock) v6 Ah) ∧ Aside0 (Kd.R (Kd.int .i64) 3 w' w.heap.size (fun k_=>some k_ ≠ (v6 : Value).ownBlock) v9 As) ∧ Aside0 (Kd.S (Kd.slice 3 (Kd.int .i64)) 23 w' w.heap.size (fun k_=>some k_ ≠ (v6 : Value).ownBlock ∧ some k_ ≠ (v9 : Value).ownBlock) Ag Ai) ∧ Aside0 (w'.heap[gb118]? = some (.cells #[.int .i64 a0_0,.int .i64 a0_1,(.slice A0_2 l0_2.length c0_2),.int .i64 a0_3,.int .u32 a0_4] 63 (0,0))) ∧ Aside0 (w'.heap[Af]? = some (.cells #[.int .i64 0,.int .i64 0,(.slice none 0 0),.int .i64 0,.int .u32 0] 63 (0,0))) ∧ Aside0 (w'.heap[Ae]? = some (.cells #[.int .i64 0,.int .i64 a0_1,Ag,.int .i64 0,.int .u32 0] 63 (0,0))) ∧ Aside0 (Below w.heap.size w w'))
      case atStart=>exact ⟨(Ax),(([] : List Int)),(0),(by first|rfl|(simp;done)|(simp [*];done)),H',⟨Nat.le_refl _⟩,⟨by (with_reducible repeat (first|apply Kd.R_alloc|apply Kd.R_drewN|apply Kd.R_drew));exact Kd.R_mono Al.out (fun _ hk=>(by simp [Value.ownBlock]))⟩,⟨by first|exact Kd.R_nil _ _ _ _ _|exact Kd.N_nil _ _ _ _ _|exact Kd.V_nil _ _ _ _ _|exact Kd.Q_nil _ _ _ _ _|exact Kd.S_nil _ _ _ _ _⟩,⟨by (with_reducible repeat (first|apply Kd.S_alloc|apply Kd.S_drewN|apply Kd.S_drew));exact Kd.S_mono Ac.out (fun _ hk=>⟨hk,(by simp [Value.ownBlock])⟩)⟩,⟨by (with_reducible repeat (first|refine blk_drewN ?_ _|refine blk_drew ?_|refine blk_alloc ?_ _));exact Aa.out⟩,⟨by (with_reducible repeat (first|refine blk_drewN ?_ _|refine blk_drew ?_|refine blk_alloc ?_ _));exact Ad.out⟩,⟨by (with_reducible repeat (first|refine blk_drewN ?_ _|refine blk_drew ?_|refine blk_alloc ?_ _));exact Ab.out⟩,⟨by repeat (first|(with_reducible first|exact HB.out|apply below_alloc|apply pw_below_drewN|apply below_drew1|refine below_set ?_ Ay.out|refine below_set ?_ Az.out|refine below_set ?_ A0.out)|exact HB.out)⟩⟩
      case round =>
       clear H'
       try clear c1
       try clear p1
       try clear q1
       try clear hx1
       try clear p2
       try clear c3
       try clear c3b0
       try clear c4
       try clear c4b0
       try clear c7
       try clear c11
       try clear p12
       try clear q12
       try clear hx12
       try clear c13
       try clear c14
       try clear c16
       try clear c16b0
       try clear c18
       try clear c19
       try clear A2
       try clear A3
       try clear A4
       try clear A5
       try clear A6
       try clear Bc
       try clear Bd
       try clear Be
       try clear Bf
       try clear Bg
       try clear hcz20_0
       try clear hcz20_1
       try clear hcz20_2
       try clear hcz20_3
       try clear hcz20_4
       try clear hcz8_0
       try clear hcz8_1
       try clear hcz8_2
       try clear hcz8_3
       try clear hcz8_4
       try clear A7
       try clear A8
       try clear A9
       try clear Ba
       try clear Bb
       try clear Bh
       try clear Bi
       try clear Bj
       try clear Bk
       try clear Bl
       try clear hfz20_0
       try clear hfz20_1
       try clear hfz20_2
       try clear hfz20_3
       try clear hfz20_4
       try clear hfz8_0
       try clear hfz8_1
       try clear hfz8_2
       try clear hfz8_3
       try clear hfz8_4
       try clear hx120_0
       try clear p1
       try clear p12
       try clear p120
       try clear p2
       try clear q1
       try clear q12
       try clear q120
       obtain ⟨Ah,As,Aj,rfl,HA,HK2,Al,An,Ac,Aa,Ad,Ab,HB⟩:=hrel
       cases gk with
       | zero=>exact absurd HA.out (by simp [least_small.l1])
       | succ k2 =>
        have H:=HA.out
        clear HA
        simp only [least_small.l1] at H
        by_cases c21 : Aj < a0_1
        ·rw [if_pos c21] at H
         have c21b0 : decide (Aj < a0_1) = true:=decide_eq_true c21
         clear c21
         by_cases c22 : 0 ≤ Ak
         ·rw [if_pos c22] at H
          have c22b0 : decide (0 ≤ Ak) = true:=decide_eq_true c22
          clear c22
          by_cases c23 : Ak < (Ah.length : Int)
          ·rw [if_pos c23] at H
           have c23b0 : decide (Ak < (Ah.length : Int)) = true:=decide_eq_true c23
           clear c23
           by_cases c24 : 0 ≤ (rd Ah Ak)
           ·rw [if_pos c24] at H
            have c24b0 : decide (0 ≤ (rd Ah Ak)) = true:=decide_eq_true c24
            clear c24
            by_cases c25 : (rd Ah Ak) < (l0_2.length : Int)
            ·rw [if_pos c25] at H
             have c25b0 : decide ((rd Ah Ak) < (l0_2.length : Int)) = true:=decide_eq_true c25
             clear c25
             by_cases c26 : 0 ≤ Aj
             ·rw [if_pos c26] at H
              have c26b0 : decide (0 ≤ Aj) = true:=decide_eq_true c26
              clear c26
              by_cases c27 : Aj < ((rd_L1 l0_2 (rd Ah Ak)).length : Int)
              ·rw [if_pos c27] at H
               have c27b0 : decide (Aj < ((rd_L1 l0_2 (rd Ah Ak)).length : Int)) = true:=decide_eq_true c27
               clear c27
               by_cases c28 : 0 ≤ (rd (rd_L1 l0_2 (rd Ah Ak)) Aj)
               ·rw [if_pos c28] at H
                have c28b0 : decide (0 ≤ (rd (rd_L1 l0_2 (rd Ah Ak)) Aj)) = true:=decide_eq_true c28
                clear c28
                by_cases c29 : (rd (rd_L1 l0_2 (rd Ah Ak)) Aj) < (l1.length : Int)
                ·rw [if_pos c29] at H
                 have c29b0 : decide ((rd (rd_L1 l0_2 (rd Ah Ak)) Aj) < (l1.length : Int)) = true:=decide_eq_true c29
                 clear c29
                 replace H:=Option.bind_eq_some_iff.mp H
                 obtain ⟨Aw,A300,H⟩:=H
                 replace H : (if Aw < 0 then (if Ah.length < 17592186044416 then (if As.length < 17592186044416 then (least_small.l1 k2 l1 (Ah ++ [rd l1 (rd (rd_L1 l0_2 (rd Ah Ak)) Aj)]) Ak (As ++ [(Ah.length : Int)]) a0_1 (wrap64 (Aj + 1)) a0_0 a0_1 l0_2 a0_3 a0_4 0 a0_1 Ai 0 0) else (none)) else (none)) else (if As.length < 17592186044416 then (least_small.l1 k2 l1 Ah Ak (As ++ [Aw]) a0_1 (wrap64 (Aj + 1)) a0_0 a0_1 l0_2 a0_3 a0_4 0 a0_1 Ai 0 0) else (none))) = some (r1,r2,r3,r4,r5,r6):=H
                 have A30:=Aside0.mk A300
                 clear A300
                 by_cases c31 : Aw < 0
                 ·rw [if_pos c31] at H
                  have c31b0 : decide (Aw < 0) = true:=decide_eq_true c31
                  clear c31
                  by_cases c32 : Ah.length < 17592186044416
                  ·rw [if_pos c32] at H
                   have LMc32:=Aside0.mk c32
                   clear c32
                   obtain ⟨y130,hy130⟩ : ∃ y_ : List Int,y_ = (Ah ++ [rd l1 (rd (rd_L1 l0_2 (rd Ah Ak)) Aj)]):=⟨_,rfl⟩
                   replace H : (if As.length < 17592186044416 then (least_small.l1 k2 l1 y130 Ak (As ++ [(Ah.length : Int)]) a0_1 (wrap64 (Aj + 1)) a0_0 a0_1 l0_2 a0_3 a0_4 0 a0_1 Ai 0 0) else (none)) = some (r1,r2,r3,r4,r5,r6):=by first|(rw [hy130];with_reducible exact H)|(have H2_:=(Option.bind_some _ _).symm.trans H;rw [hy130];with_reducible exact H2_)|(have H2_:=(Option.bind_some _ _).symm.trans H;with_reducible exact H2_)|with_reducible exact H|(rw [hy130];exact H)|exact H
                   have Ny130:=Aside0.mk hy130
                   clear hy130
                   by_cases c33 : As.length < 17592186044416
                   ·rw [if_pos c33] at H
                    have LMc33:=Aside0.mk c33
                    clear c33
                    obtain ⟨y133,hy133⟩ : ∃ y_ : List Int,y_ = (As ++ [(Ah.length : Int)]):=⟨_,rfl⟩
                    replace H : (least_small.l1 k2 l1 y130 Ak y133 a0_1 (wrap64 (Aj + 1)) a0_0 a0_1 l0_2 a0_3 a0_4 0 a0_1 Ai 0 0) = some (r1,r2,r3,r4,r5,r6):=by first|(rw [hy133];with_reducible exact H)|(have H2_:=(Option.bind_some _ _).symm.trans H;rw [hy133];with_reducible exact H2_)|(have H2_:=(Option.bind_some _ _).symm.trans H;with_reducible exact H2_)|with_reducible exact H|(rw [hy133];exact H)|exact H
                    have Ny133:=Aside0.mk hy133
                    clear hy133
                    have H':=Aside0.mk H
                    clear H
                    have hnb34:=Aq.out
                    have hnc34:=Ar.out
                    have hnb35:=Am.out
                    have hnc35:=Ap.out
                    have hcz36_0 : wr.cell? ⟨gb118,0,none⟩ = some (.int .i64 a0_0):=(blk_cell Aa.out 0).trans rfl
                    have hcz36_1 : wr.cell? ⟨gb118,1,none⟩ = some (.int .i64 a0_1):=(blk_cell Aa.out 1).trans rfl
                    have hcz36_2 : wr.cell? ⟨gb118,2,none⟩ = some (.slice A0_2 l0_2.length c0_2):=(blk_cell Aa.out 2).trans rfl
                    have hcz36_3 : wr.cell? ⟨gb118,3,none⟩ = some (.int .i64 a0_3):=(blk_cell Aa.out 3).trans rfl
                    have hcz36_4 : wr.cell? ⟨gb118,4,none⟩ = some (.int .u32 a0_4):=(blk_cell Aa.out 4).trans rfl
                    have hfz36_0:=blk_frozen Aa.out 0
                    have hfz36_1:=blk_frozen Aa.out 1
                    have hfz36_2:=blk_frozen Aa.out 2
                    have hfz36_3:=blk_frozen Aa.out 3
                    have hfz36_4:=blk_frozen Aa.out 4
                    obtain ⟨Ao37,co37,eo37⟩:=Kd.R_slice Al.out
                    subst eo37
                    have p125 : 0 ≤ (Ak : Int):=of_decide_eq_true qAs6_6
                    have q125 : Ak < (Ah.length : Int):=of_decide_eq_true qAs6_6
                    obtain ⟨ad125,e125,hx125_0⟩:=Kd.at_int (Kd.R_reads' Al.out).2.2 Ak p125 q125
                    cases e125
                    replace p125:=eq_true p125
                    replace q125:=eq_true q125
                    have p126 : 0 ≤ ((rd Ah Ak) : Int):=of_decide_eq_true qAs6_6
                    have q126 : (rd Ah Ak) < (l0_2.length : Int):=of_decide_eq_true qAs6_6
                    obtain ⟨ad126,A126_0,c126_0,e126,hx126_0,hl126_0,hi126_0⟩:=at_L1 HR0_2.out (rd Ah Ak) p126 q126
                    cases e126
                    replace hx126_0:=(HB.out.cell (World.block_lt_of_cell? w _ hx126_0)).trans hx126_0
                    have HR126_0:=Aside0.mk hi126_0
                    have HC126_0:=Aside0.mk hl126_0
                    clear hi126_0 hl126_0
                    replace p126:=eq_true p126
                    replace q126:=eq_true q126
                    have p127 : 0 ≤ (Aj : Int):=of_decide_eq_true qAs6_6
                    have q127 : Aj < ((rd_L1 l0_2 (rd Ah Ak)).length : Int):=of_decide_eq_true qAs6_6
                    obtain ⟨ad127,e127,hx127_0⟩:=Kd.at_int HR126_0.out Aj p127 q127
                    cases e127
                    replace hx127_0:=(HB.out.cell (World.block_lt_of_cell? w _ hx127_0)).trans hx127_0
                    replace p127:=eq_true p127
                    replace q127:=eq_true q127
                    have p128 : 0 ≤ ((rd (rd_L1 l0_2 (rd Ah Ak)) Aj) : Int):=of_decide_eq_true qAs6_6
                    have q128 : (rd (rd_L1 l0_2 (rd Ah Ak)) Aj) < (l1.length : Int):=of_decide_eq_true qAs6_6
                    obtain ⟨ad128,e128,hx128_0⟩:=Kd.at_int HR1.out (rd (rd_L1 l0_2 (rd Ah Ak)) Aj) p128 q128
                    obtain rfl : ad120 = ad128:=(by injection e128)
                    replace hx128_0:=(HB.out.cell (World.block_lt_of_cell? w _ hx128_0)).trans hx128_0
                    replace p128:=eq_true p128
                    replace q128:=eq_true q128
                    go_wp2_with (first|(go_at_call 138;(with_reducible refine (slices_Index_int_int.calls k2 _ _ Ah (rd l1 (rd (rd_L1 l0_2 (rd Ah Ak)) Aj)) Aw _ ?side1 ?side2 A30.out).mono ?_);(case side1=>repeat (first|exact (Kd.R_reads' Al.out).2.2|(with_reducible refine Kd.C_alloc ?_ _)|(with_reducible refine Kd.C_drewN ?_ _)|(with_reducible refine Kd.C_drew ?_)));(case side2=>exact (Kd.R_reads' Al.out).2.1);rintro e w' ⟨rfl,⟨nd,rfl⟩⟩;(try first|exact ⟨rfl,_,World.drewN_drewN _ _ _⟩|exact ⟨rfl,_,Eq.trans (World.drewN_drewN _ _ _) (congrArg (World.drewN _) (Nat.add_assoc _ _ _))⟩))|((with_reducible refine gate_builtin (b:=.append) (xs:=#[.tmp 54,.tmp 56]) rfl ?_);at_builtin;refine Kd.R_append (Kd.int .i64) (w0:=w) w.heap.size rfl (.tmp 54) (.tmp 56) 23 3 (.int .i64 0) 8 rfl Try.underlying23 info3 rfl (by decide) (by omega) (.slice (some ad125) Ah.length co37) Ah (rd l1 (rd (rd_L1 l0_2 (rd Ah Ak)) Aj)) [.int .i64 (rd l1 (rd (rd_L1 l0_2 (rd Ah Ak)) Aj))] (fun k_=>some k_ ≠ (u9 : Value).ownBlock) (fun _=>False) rfl rfl ?aP (fun _ hk=>hk.elim) ?aF ?aO ?aB ?aS ?aL ?_;(case aP=>exact rfl);(case aB=>exact qBs6_5);(case aF=>exact (fun k_ hk=>Kd.fresh' (Kd.R_lt (qRs6_ An.out)) k_ hk));(case aO=>exact (qRs6_ Al.out));(case aS=>exact (below_size qBs6_5));(case aL=>have:=LMc32.out;omega);intro v131 w38 ho hb hg hat;rw [← Ny130.out] at ho;have n0_:=Aside0.mk (Kd.R_after (ok:=(fun _=>True)) (by (with_reducible repeat (first|apply Kd.R_alloc|apply Kd.R_drewN|apply Kd.R_drew));exact Kd.R_mono An.out (fun _ hk=>⟨trivial,hk⟩)) hg hat);have n1_:=Aside0.mk (Kd.S_after (ok:=(fun k_=>some k_ ≠ (u9 : Value).ownBlock)) (by (with_reducible repeat (first|apply Kd.S_alloc|apply Kd.S_drewN|apply Kd.S_drew));exact Kd.S_mono Ac.out (fun _ hk=>⟨hk.2,hk.1⟩)) hg hat);have n2_:=Aside0.mk (blk_grown (g:=gb118) (o:=.cells #[.int .i64 a0_0,.int .i64 a0_1,.slice (some ad126) l0_2.length c0_2,.int .i64 a0_3,.int .u32 a0_4] 63 (0,0)) (qDs6_ Aa.out) hg (Kd.R_ne Al.out Aa.out (by decide)));have n3_:=Aside0.mk (blk_grown (g:=Af) (o:=.cells #[.int .i64 0,.int .i64 0,.slice none 0 0,.int .i64 0,.int .u32 0] 63 (0,0)) (qDs6_ Ad.out) hg (Kd.R_ne Al.out Ad.out (by decide)));have n4_:=Aside0.mk (blk_grown (g:=Ae) (o:=.cells #[.int .i64 0,.int .i64 a0_1,Ag,.int .i64 0,.int .u32 0] 63 (0,0)) (qDs6_ Ab.out) hg (Kd.R_ne Al.out Ab.out (by decide)));have n5_:=Aside0.mk (hb);have n6_:=Aside0.mk (ho);clear An;clear Ac;clear Aa;clear Ad;clear Ab;clear HB;clear Al;have An:=n0_;have Ac:=n1_;have Aa:=n2_;have Ad:=n3_;have Ab:=n4_;have HB:=n5_;have Au:=n6_;clear n0_ n1_ n2_ n3_ n4_ n5_ n6_;clear ho hb hg hat)|((with_reducible refine gate_builtin (b:=.append) (xs:=#[.tmp 58,.tmp 60]) rfl ?_);at_builtin;refine Kd.R_append (Kd.int .i64) (w0:=w) w.heap.size rfl (.tmp 58) (.tmp 60) 23 3 (.int .i64 0) 8 rfl Try.underlying23 info3 rfl (by decide) (by omega) u9 As (Ah.length : Int) [.int .i64 (Ah.length : Int)] (fun k_=>some k_ ≠ (v131 : Value).ownBlock) (fun _=>False) rfl rfl ?aP (fun _ hk=>hk.elim) ?aF ?aO ?aB ?aS ?aL ?_;(case aP=>exact rfl);(case aB=>exact qBs6_5);(case aF=>exact (fun k_ hk=>Kd.fresh' (Kd.R_lt (qRs6_ Au.out)) k_ hk));(case aO=>exact (by (with_reducible repeat (first|apply Kd.R_alloc|apply Kd.R_drewN|apply Kd.R_drew));exact Kd.R_mono An.out (fun _ hk=>hk.2)));(case aS=>exact (below_size qBs6_5));(case aL=>have:=LMc33.out;omega);intro v134 w39 ho hb hg hat;rw [← Ny133.out] at ho;have n0_:=Aside0.mk (Kd.S_after (ok:=(fun k_=>some k_ ≠ (v131 : Value).ownBlock)) (by (with_reducible repeat (first|apply Kd.S_alloc|apply Kd.S_drewN|apply Kd.S_drew));exact Kd.S_mono Ac.out (fun _ hk=>⟨hk.2,hk.1⟩)) hg hat);have n1_:=Aside0.mk (blk_grown (g:=gb118) (o:=.cells #[.int .i64 a0_0,.int .i64 a0_1,.slice (some ad126) l0_2.length c0_2,.int .i64 a0_3,.int .u32 a0_4] 63 (0,0)) (qDs6_ Aa.out) hg (Kd.R_ne An.out Aa.out (by decide)));have n2_:=Aside0.mk (blk_grown (g:=Af) (o:=.cells #[.int .i64 0,.int .i64 0,.slice none 0 0,.int .i64 0,.int .u32 0] 63 (0,0)) (qDs6_ Ad.out) hg (Kd.R_ne An.out Ad.out (by decide)));have n3_:=Aside0.mk (blk_grown (g:=Ae) (o:=.cells #[.int .i64 0,.int .i64 a0_1,Ag,.int .i64 0,.int .u32 0] 63 (0,0)) (qDs6_ Ab.out) hg (Kd.R_ne An.out Ab.out (by decide)));have n4_:=Aside0.mk (Kd.R_after (ok:=(fun _=>True)) (by (with_reducible repeat (first|apply Kd.R_alloc|apply Kd.R_drewN|apply Kd.R_drew));exact Kd.R_mono Au.out (fun _ hk=>⟨trivial,hk⟩)) hg hat);have n5_:=Aside0.mk (hb);have n6_:=Aside0.mk (ho);clear Ac;clear Aa;clear Ad;clear Ab;clear Au;clear HB;clear An;have Ac:=n0_;have Aa:=n1_;have Ad:=n2_;have Ab:=n3_;have Au:=n4_;have HB:=n5_;have HO135:=n6_;clear n0_ n1_ n2_ n3_ n4_ n5_ n6_;clear ho hb hg hat))
                    repeat (go_quiet (first|(go_at_call 138;(with_reducible refine (slices_Index_int_int.calls k2 _ _ Ah (rd l1 (rd (rd_L1 l0_2 (rd Ah Ak)) Aj)) Aw _ ?side1 ?side2 A30.out).mono ?_);(case side1=>repeat (first|exact (Kd.R_reads' Al.out).2.2|(with_reducible refine Kd.C_alloc ?_ _)|(with_reducible refine Kd.C_drewN ?_ _)|(with_reducible refine Kd.C_drew ?_)));(case side2=>exact (Kd.R_reads' Al.out).2.1);rintro e w' ⟨rfl,⟨nd,rfl⟩⟩;(try first|exact ⟨rfl,_,World.drewN_drewN _ _ _⟩|exact ⟨rfl,_,Eq.trans (World.drewN_drewN _ _ _) (congrArg (World.drewN _) (Nat.add_assoc _ _ _))⟩))|((with_reducible refine gate_builtin (b:=.append) (xs:=#[.tmp 54,.tmp 56]) rfl ?_);at_builtin;refine Kd.R_append (Kd.int .i64) (w0:=w) w.heap.size rfl (.tmp 54) (.tmp 56) 23 3 (.int .i64 0) 8 rfl Try.underlying23 info3 rfl (by decide) (by omega) (.slice (some ad125) Ah.length co37) Ah (rd l1 (rd (rd_L1 l0_2 (rd Ah Ak)) Aj)) [.int .i64 (rd l1 (rd (rd_L1 l0_2 (rd Ah Ak)) Aj))] (fun k_=>some k_ ≠ (u9 : Value).ownBlock) (fun _=>False) rfl rfl ?aP (fun _ hk=>hk.elim) ?aF ?aO ?aB ?aS ?aL ?_;(case aP=>exact rfl);(case aB=>exact qBs6_5);(case aF=>exact (fun k_ hk=>Kd.fresh' (Kd.R_lt (qRs6_ An.out)) k_ hk));(case aO=>exact (qRs6_ Al.out));(case aS=>exact (below_size qBs6_5));(case aL=>have:=LMc32.out;omega);intro v131 w38 ho hb hg hat;rw [← Ny130.out] at ho;have n0_:=Aside0.mk (Kd.R_after (ok:=(fun _=>True)) (by (with_reducible repeat (first|apply Kd.R_alloc|apply Kd.R_drewN|apply Kd.R_drew));exact Kd.R_mono An.out (fun _ hk=>⟨trivial,hk⟩)) hg hat);have n1_:=Aside0.mk (Kd.S_after (ok:=(fun k_=>some k_ ≠ (u9 : Value).ownBlock)) (by (with_reducible repeat (first|apply Kd.S_alloc|apply Kd.S_drewN|apply Kd.S_drew));exact Kd.S_mono Ac.out (fun _ hk=>⟨hk.2,hk.1⟩)) hg hat);have n2_:=Aside0.mk (blk_grown (g:=gb118) (o:=.cells #[.int .i64 a0_0,.int .i64 a0_1,.slice (some ad126) l0_2.length c0_2,.int .i64 a0_3,.int .u32 a0_4] 63 (0,0)) (qDs6_ Aa.out) hg (Kd.R_ne Al.out Aa.out (by decide)));have n3_:=Aside0.mk (blk_grown (g:=Af) (o:=.cells #[.int .i64 0,.int .i64 0,.slice none 0 0,.int .i64 0,.int .u32 0] 63 (0,0)) (qDs6_ Ad.out) hg (Kd.R_ne Al.out Ad.out (by decide)));have n4_:=Aside0.mk (blk_grown (g:=Ae) (o:=.cells #[.int .i64 0,.int .i64 a0_1,Ag,.int .i64 0,.int .u32 0] 63 (0,0)) (qDs6_ Ab.out) hg (Kd.R_ne Al.out Ab.out (by decide)));have n5_:=Aside0.mk (hb);have n6_:=Aside0.mk (ho);clear An;clear Ac;clear Aa;clear Ad;clear Ab;clear HB;clear Al;have An:=n0_;have Ac:=n1_;have Aa:=n2_;have Ad:=n3_;have Ab:=n4_;have HB:=n5_;have Au:=n6_;clear n0_ n1_ n2_ n3_ n4_ n5_ n6_;clear ho hb hg hat)|((with_reducible refine gate_builtin (b:=.append) (xs:=#[.tmp 58,.tmp 60]) rfl ?_);at_builtin;refine Kd.R_append (Kd.int .i64) (w0:=w) w.heap.size rfl (.tmp 58) (.tmp 60) 23 3 (.int .i64 0) 8 rfl Try.underlying23 info3 rfl (by decide) (by omega) u9 As (Ah.length : Int) [.int .i64 (Ah.length : Int)] (fun k_=>some k_ ≠ (v131 : Value).ownBlock) (fun _=>False) rfl rfl ?aP (fun _ hk=>hk.elim) ?aF ?aO ?aB ?aS ?aL ?_;(case aP=>exact rfl);(case aB=>exact qBs6_5);(case aF=>exact (fun k_ hk=>Kd.fresh' (Kd.R_lt (qRs6_ Au.out)) k_ hk));(case aO=>exact (by (with_reducible repeat (first|apply Kd.R_alloc|apply Kd.R_drewN|apply Kd.R_drew));exact Kd.R_mono An.out (fun _ hk=>hk.2)));(case aS=>exact (below_size qBs6_5));(case aL=>have:=LMc33.out;omega);intro v134 w39 ho hb hg hat;rw [← Ny133.out] at ho;have n0_:=Aside0.mk (Kd.S_after (ok:=(fun k_=>some k_ ≠ (v131 : Value).ownBlock)) (by (with_reducible repeat (first|apply Kd.S_alloc|apply Kd.S_drewN|apply Kd.S_drew));exact Kd.S_mono Ac.out (fun _ hk=>⟨hk.2,hk.1⟩)) hg hat);have n1_:=Aside0.mk (blk_grown (g:=gb118) (o:=.cells #[.int .i64 a0_0,.int .i64 a0_1,.slice (some ad126) l0_2.length c0_2,.int .i64 a0_3,.int .u32 a0_4] 63 (0,0)) (qDs6_ Aa.out) hg (Kd.R_ne An.out Aa.out (by decide)));have n2_:=Aside0.mk (blk_grown (g:=Af) (o:=.cells #[.int .i64 0,.int .i64 0,.slice none 0 0,.int .i64 0,.int .u32 0] 63 (0,0)) (qDs6_ Ad.out) hg (Kd.R_ne An.out Ad.out (by decide)));have n3_:=Aside0.mk (blk_grown (g:=Ae) (o:=.cells #[.int .i64 0,.int .i64 a0_1,Ag,.int .i64 0,.int .u32 0] 63 (0,0)) (qDs6_ Ab.out) hg (Kd.R_ne An.out Ab.out (by decide)));have n4_:=Aside0.mk (Kd.R_after (ok:=(fun _=>True)) (by (with_reducible repeat (first|apply Kd.R_alloc|apply Kd.R_drewN|apply Kd.R_drew));exact Kd.R_mono Au.out (fun _ hk=>⟨trivial,hk⟩)) hg hat);have n5_:=Aside0.mk (hb);have n6_:=Aside0.mk (ho);clear Ac;clear Aa;clear Ad;clear Ab;clear Au;clear HB;clear An;have Ac:=n0_;have Aa:=n1_;have Ad:=n2_;have Ab:=n3_;have Au:=n4_;have HB:=n5_;have HO135:=n6_;clear n0_ n1_ n2_ n3_ n4_ n5_ n6_;clear ho hb hg hat));try go_wp2_with (first|(go_at_call 138;(with_reducible refine (slices_Index_int_int.calls k2 _ _ Ah (rd l1 (rd (rd_L1 l0_2 (rd Ah Ak)) Aj)) Aw _ ?side1 ?side2 A30.out).mono ?_);(case side1=>repeat (first|exact (Kd.R_reads' Al.out).2.2|(with_reducible refine Kd.C_alloc ?_ _)|(with_reducible refine Kd.C_drewN ?_ _)|(with_reducible refine Kd.C_drew ?_)));(case side2=>exact (Kd.R_reads' Al.out).2.1);rintro e w' ⟨rfl,⟨nd,rfl⟩⟩;(try first|exact ⟨rfl,_,World.drewN_drewN _ _ _⟩|exact ⟨rfl,_,Eq.trans (World.drewN_drewN _ _ _) (congrArg (World.drewN _) (Nat.add_assoc _ _ _))⟩))|((with_reducible refine gate_builtin (b:=.append) (xs:=#[.tmp 54,.tmp 56]) rfl ?_);at_builtin;refine Kd.R_append (Kd.int .i64) (w0:=w) w.heap.size rfl (.tmp 54) (.tmp 56) 23 3 (.int .i64 0) 8 rfl Try.underlying23 info3 rfl (by decide) (by omega) (.slice (some ad125) Ah.length co37) Ah (rd l1 (rd (rd_L1 l0_2 (rd Ah Ak)) Aj)) [.int .i64 (rd l1 (rd (rd_L1 l0_2 (rd Ah Ak)) Aj))] (fun k_=>some k_ ≠ (u9 : Value).ownBlock) (fun _=>False) rfl rfl ?aP (fun _ hk=>hk.elim) ?aF ?aO ?aB ?aS ?aL ?_;(case aP=>exact rfl);(case aB=>exact qBs6_5);(case aF=>exact (fun k_ hk=>Kd.fresh' (Kd.R_lt (qRs6_ An.out)) k_ hk));(case aO=>exact (qRs6_ Al.out));(case aS=>exact (below_size qBs6_5));(case aL=>have:=LMc32.out;omega);intro v131 w38 ho hb hg hat;rw [← Ny130.out] at ho;have n0_:=Aside0.mk (Kd.R_after (ok:=(fun _=>True)) (by (with_reducible repeat (first|apply Kd.R_alloc|apply Kd.R_drewN|apply Kd.R_drew));exact Kd.R_mono An.out (fun _ hk=>⟨trivial,hk⟩)) hg hat);have n1_:=Aside0.mk (Kd.S_after (ok:=(fun k_=>some k_ ≠ (u9 : Value).ownBlock)) (by (with_reducible repeat (first|apply Kd.S_alloc|apply Kd.S_drewN|apply Kd.S_drew));exact Kd.S_mono Ac.out (fun _ hk=>⟨hk.2,hk.1⟩)) hg hat);have n2_:=Aside0.mk (blk_grown (g:=gb118) (o:=.cells #[.int .i64 a0_0,.int .i64 a0_1,.slice (some ad126) l0_2.length c0_2,.int .i64 a0_3,.int .u32 a0_4] 63 (0,0)) (qDs6_ Aa.out) hg (Kd.R_ne Al.out Aa.out (by decide)));have n3_:=Aside0.mk (blk_grown (g:=Af) (o:=.cells #[.int .i64 0,.int .i64 0,.slice none 0 0,.int .i64 0,.int .u32 0] 63 (0,0)) (qDs6_ Ad.out) hg (Kd.R_ne Al.out Ad.out (by decide)));have n4_:=Aside0.mk (blk_grown (g:=Ae) (o:=.cells #[.int .i64 0,.int .i64 a0_1,Ag,.int .i64 0,.int .u32 0] 63 (0,0)) (qDs6_ Ab.out) hg (Kd.R_ne Al.out Ab.out (by decide)));have n5_:=Aside0.mk (hb);have n6_:=Aside0.mk (ho);clear An;clear Ac;clear Aa;clear Ad;clear Ab;clear HB;clear Al;have An:=n0_;have Ac:=n1_;have Aa:=n2_;have Ad:=n3_;have Ab:=n4_;have HB:=n5_;have Au:=n6_;clear n0_ n1_ n2_ n3_ n4_ n5_ n6_;clear ho hb hg hat)|((with_reducible refine gate_builtin (b:=.append) (xs:=#[.tmp 58,.tmp 60]) rfl ?_);at_builtin;refine Kd.R_append (Kd.int .i64) (w0:=w) w.heap.size rfl (.tmp 58) (.tmp 60) 23 3 (.int .i64 0) 8 rfl Try.underlying23 info3 rfl (by decide) (by omega) u9 As (Ah.length : Int) [.int .i64 (Ah.length : Int)] (fun k_=>some k_ ≠ (v131 : Value).ownBlock) (fun _=>False) rfl rfl ?aP (fun _ hk=>hk.elim) ?aF ?aO ?aB ?aS ?aL ?_;(case aP=>exact rfl);(case aB=>exact qBs6_5);(case aF=>exact (fun k_ hk=>Kd.fresh' (Kd.R_lt (qRs6_ Au.out)) k_ hk));(case aO=>exact (by (with_reducible repeat (first|apply Kd.R_alloc|apply Kd.R_drewN|apply Kd.R_drew));exact Kd.R_mono An.out (fun _ hk=>hk.2)));(case aS=>exact (below_size qBs6_5));(case aL=>have:=LMc33.out;omega);intro v134 w39 ho hb hg hat;rw [← Ny133.out] at ho;have n0_:=Aside0.mk (Kd.S_after (ok:=(fun k_=>some k_ ≠ (v131 : Value).ownBlock)) (by (with_reducible repeat (first|apply Kd.S_alloc|apply Kd.S_drewN|apply Kd.S_drew));exact Kd.S_mono Ac.out (fun _ hk=>⟨hk.2,hk.1⟩)) hg hat);have n1_:=Aside0.mk (blk_grown (g:=gb118) (o:=.cells #[.int .i64 a0_0,.int .i64 a0_1,.slice (some ad126) l0_2.length c0_2,.int .i64 a0_3,.int .u32 a0_4] 63 (0,0)) (qDs6_ Aa.out) hg (Kd.R_ne An.out Aa.out (by decide)));have n2_:=Aside0.mk (blk_grown (g:=Af) (o:=.cells #[.int .i64 0,.int .i64 0,.slice none 0 0,.int .i64 0,.int .u32 0] 63 (0,0)) (qDs6_ Ad.out) hg (Kd.R_ne An.out Ad.out (by decide)));have n3_:=Aside0.mk (blk_grown (g:=Ae) (o:=.cells #[.int .i64 0,.int .i64 a0_1,Ag,.int .i64 0,.int .u32 0] 63 (0,0)) (qDs6_ Ab.out) hg (Kd.R_ne An.out Ab.out (by decide)));have n4_:=Aside0.mk (Kd.R_after (ok:=(fun _=>True)) (by (with_reducible repeat (first|apply Kd.R_alloc|apply Kd.R_drewN|apply Kd.R_drew));exact Kd.R_mono Au.out (fun _ hk=>⟨trivial,hk⟩)) hg hat);have n5_:=Aside0.mk (hb);have n6_:=Aside0.mk (ho);clear Ac;clear Aa;clear Ad;clear Ab;clear Au;clear HB;clear An;have Ac:=n0_;have Aa:=n1_;have Ad:=n2_;have Ab:=n3_;have Au:=n4_;have HB:=n5_;have HO135:=n6_;clear n0_ n1_ n2_ n3_ n4_ n5_ n6_;clear ho hb hg hat)))
                    go_roundg k2
                    case measure=>have:=HK1.out;have:=HK2.out;omega
                    case rel=>exact ⟨(y130),(y133),(wrap64 (Aj + 1)),(by first|rfl|(simp;done)|(simp [*];done)),H',⟨by have:=HK1.out;have:=HK2.out;omega⟩,⟨by (with_reducible repeat (first|apply Kd.R_alloc|apply Kd.R_drewN|apply Kd.R_drew));exact Kd.R_mono Au.out (fun _ hk=>hk.2)⟩,⟨by (with_reducible repeat (first|apply Kd.R_alloc|apply Kd.R_drewN|apply Kd.R_drew));exact HO135.out⟩,⟨by (with_reducible repeat (first|apply Kd.S_alloc|apply Kd.S_drewN|apply Kd.S_drew));exact Ac.out⟩,⟨by (with_reducible repeat (first|refine blk_drewN ?_ _|refine blk_drew ?_|refine blk_alloc ?_ _));exact Aa.out⟩,⟨by (with_reducible repeat (first|refine blk_drewN ?_ _|refine blk_drew ?_|refine blk_alloc ?_ _));exact Ad.out⟩,⟨by (with_reducible repeat (first|refine blk_drewN ?_ _|refine blk_drew ?_|refine blk_alloc ?_ _));exact Ab.out⟩,⟨by repeat (first|(with_reducible first|exact HB.out|apply below_alloc|apply pw_below_drewN|apply below_drew1|refine below_set ?_ Ay.out|refine below_set ?_ Az.out|refine below_set ?_ A0.out)|exact HB.out)⟩⟩
                   ·rw [if_neg c33] at H
                    exact absurd H (by simp)
                  ·rw [if_neg c32] at H
                   exact absurd H (by simp)
                 ·rw [if_neg c31] at H
                  have c31b0 : decide (Aw < 0) = false:=decide_eq_false c31
                  clear c31
                  by_cases c40 : As.length < 17592186044416
                  ·rw [if_pos c40] at H
                   have LMc40:=Aside0.mk c40
                   clear c40
                   obtain ⟨y136,hy136⟩ : ∃ y_ : List Int,y_ = (As ++ [Aw]):=⟨_,rfl⟩
                   replace H : (least_small.l1 k2 l1 Ah Ak y136 a0_1 (wrap64 (Aj + 1)) a0_0 a0_1 l0_2 a0_3 a0_4 0 a0_1 Ai 0 0) = some (r1,r2,r3,r4,r5,r6):=by first|(rw [hy136];with_reducible exact H)|(have H2_:=(Option.bind_some _ _).symm.trans H;rw [hy136];with_reducible exact H2_)|(have H2_:=(Option.bind_some _ _).symm.trans H;with_reducible exact H2_)|with_reducible exact H|(rw [hy136];exact H)|exact H
                   have Ny136:=Aside0.mk hy136
                   clear hy136
                   have H':=Aside0.mk H
                   clear H
                   have hnb41:=Aq.out
                   have hnc41:=Ar.out
                   have hnb42:=Am.out
                   have hnc42:=Ap.out
                   have hcz43_0 : wr.cell? ⟨gb118,0,none⟩ = some (.int .i64 a0_0):=(blk_cell Aa.out 0).trans rfl
                   have hcz43_1 : wr.cell? ⟨gb118,1,none⟩ = some (.int .i64 a0_1):=(blk_cell Aa.out 1).trans rfl
                   have hcz43_2 : wr.cell? ⟨gb118,2,none⟩ = some (.slice A0_2 l0_2.length c0_2):=(blk_cell Aa.out 2).trans rfl
                   have hcz43_3 : wr.cell? ⟨gb118,3,none⟩ = some (.int .i64 a0_3):=(blk_cell Aa.out 3).trans rfl
                   have hcz43_4 : wr.cell? ⟨gb118,4,none⟩ = some (.int .u32 a0_4):=(blk_cell Aa.out 4).trans rfl
                   have hfz43_0:=blk_frozen Aa.out 0
                   have hfz43_1:=blk_frozen Aa.out 1
                   have hfz43_2:=blk_frozen Aa.out 2
                   have hfz43_3:=blk_frozen Aa.out 3
                   have hfz43_4:=blk_frozen Aa.out 4
                   obtain ⟨Ao44,co44,eo44⟩:=Kd.R_slice Al.out
                   subst eo44
                   have p125 : 0 ≤ (Ak : Int):=of_decide_eq_true qAs6_6
                   have q125 : Ak < (Ah.length : Int):=of_decide_eq_true qAs6_6
                   obtain ⟨ad125,e125,hx125_0⟩:=Kd.at_int (Kd.R_reads' Al.out).2.2 Ak p125 q125
                   cases e125
                   replace p125:=eq_true p125
                   replace q125:=eq_true q125
                   have p126 : 0 ≤ ((rd Ah Ak) : Int):=of_decide_eq_true qAs6_6
                   have q126 : (rd Ah Ak) < (l0_2.length : Int):=of_decide_eq_true qAs6_6
                   obtain ⟨ad126,A126_0,c126_0,e126,hx126_0,hl126_0,hi126_0⟩:=at_L1 HR0_2.out (rd Ah Ak) p126 q126
                   cases e126
                   replace hx126_0:=(HB.out.cell (World.block_lt_of_cell? w _ hx126_0)).trans hx126_0
                   have HR126_0:=Aside0.mk hi126_0
                   have HC126_0:=Aside0.mk hl126_0
                   clear hi126_0 hl126_0
                   replace p126:=eq_true p126
                   replace q126:=eq_true q126
                   have p127 : 0 ≤ (Aj : Int):=of_decide_eq_true qAs6_6
                   have q127 : Aj < ((rd_L1 l0_2 (rd Ah Ak)).length : Int):=of_decide_eq_true qAs6_6
                   obtain ⟨ad127,e127,hx127_0⟩:=Kd.at_int HR126_0.out Aj p127 q127
                   cases e127
                   replace hx127_0:=(HB.out.cell (World.block_lt_of_cell? w _ hx127_0)).trans hx127_0
                   replace p127:=eq_true p127
                   replace q127:=eq_true q127
                   have p128 : 0 ≤ ((rd (rd_L1 l0_2 (rd Ah Ak)) Aj) : Int):=of_decide_eq_true qAs6_6
                   have q128 : (rd (rd_L1 l0_2 (rd Ah Ak)) Aj) < (l1.length : Int):=of_decide_eq_true qAs6_6
                   obtain ⟨ad128,e128,hx128_0⟩:=Kd.at_int HR1.out (rd (rd_L1 l0_2 (rd Ah Ak)) Aj) p128 q128
                   obtain rfl : ad120 = ad128:=(by injection e128)
                   replace hx128_0:=(HB.out.cell (World.block_lt_of_cell? w _ hx128_0)).trans hx128_0
                   replace p128:=eq_true p128
                   replace q128:=eq_true q128
                   go_wp2_with (first|(go_at_call 138;(with_reducible refine (slices_Index_int_int.calls k2 _ _ Ah (rd l1 (rd (rd_L1 l0_2 (rd Ah Ak)) Aj)) Aw _ ?side1 ?side2 A30.out).mono ?_);(case side1=>repeat (first|exact (Kd.R_reads' Al.out).2.2|(with_reducible refine Kd.C_alloc ?_ _)|(with_reducible refine Kd.C_drewN ?_ _)|(with_reducible refine Kd.C_drew ?_)));(case side2=>exact (Kd.R_reads' Al.out).2.1);rintro e w' ⟨rfl,⟨nd,rfl⟩⟩;(try first|exact ⟨rfl,_,World.drewN_drewN _ _ _⟩|exact ⟨rfl,_,Eq.trans (World.drewN_drewN _ _ _) (congrArg (World.drewN _) (Nat.add_assoc _ _ _))⟩))|((with_reducible refine gate_builtin (b:=.append) (xs:=#[.tmp 58,.tmp 60]) rfl ?_);at_builtin;refine Kd.R_append (Kd.int .i64) (w0:=w) w.heap.size rfl (.tmp 58) (.tmp 60) 23 3 (.int .i64 0) 8 rfl Try.underlying23 info3 rfl (by decide) (by omega) u9 As Aw [.int .i64 Aw] (fun k_=>some k_ ≠ (.slice (some ad125) Ah.length co44 : Value).ownBlock) (fun _=>False) rfl rfl ?aP (fun _ hk=>hk.elim) ?aF ?aO ?aB ?aS ?aL ?_;(case aP=>exact rfl);(case aB=>exact qBs6_5);(case aF=>exact (fun k_ hk=>Kd.fresh' (Kd.R_lt (qRs6_ Al.out)) k_ hk));(case aO=>exact (qRs6_ An.out));(case aS=>exact (below_size qBs6_5));(case aL=>have:=LMc40.out;omega);intro v137 w45 ho hb hg hat;rw [← Ny136.out] at ho;have n0_:=Aside0.mk (Kd.R_after (ok:=(fun _=>True)) (by (with_reducible repeat (first|apply Kd.R_alloc|apply Kd.R_drewN|apply Kd.R_drew));exact Kd.R_mono Al.out (fun _ hk=>⟨trivial,hk⟩)) hg hat);have n1_:=Aside0.mk (Kd.S_after (ok:=(fun k_=>some k_ ≠ (.slice (some ad125) Ah.length co44 : Value).ownBlock)) (by (with_reducible repeat (first|apply Kd.S_alloc|apply Kd.S_drewN|apply Kd.S_drew));exact Ac.out) hg hat);have n2_:=Aside0.mk (blk_grown (g:=gb118) (o:=.cells #[.int .i64 a0_0,.int .i64 a0_1,.slice (some ad126) l0_2.length c0_2,.int .i64 a0_3,.int .u32 a0_4] 63 (0,0)) (qDs6_ Aa.out) hg (Kd.R_ne An.out Aa.out (by decide)));have n3_:=Aside0.mk (blk_grown (g:=Af) (o:=.cells #[.int .i64 0,.int .i64 0,.slice none 0 0,.int .i64 0,.int .u32 0] 63 (0,0)) (qDs6_ Ad.out) hg (Kd.R_ne An.out Ad.out (by decide)));have n4_:=Aside0.mk (blk_grown (g:=Ae) (o:=.cells #[.int .i64 0,.int .i64 a0_1,Ag,.int .i64 0,.int .u32 0] 63 (0,0)) (qDs6_ Ab.out) hg (Kd.R_ne An.out Ab.out (by decide)));have n5_:=Aside0.mk (hb);have n6_:=Aside0.mk (ho);clear Al;clear Ac;clear Aa;clear Ad;clear Ab;clear HB;clear An;have Al:=n0_;have Ac:=n1_;have Aa:=n2_;have Ad:=n3_;have Ab:=n4_;have HB:=n5_;have HO138:=n6_;clear n0_ n1_ n2_ n3_ n4_ n5_ n6_;clear ho hb hg hat))
                   repeat (go_quiet (first|(go_at_call 138;(with_reducible refine (slices_Index_int_int.calls k2 _ _ Ah (rd l1 (rd (rd_L1 l0_2 (rd Ah Ak)) Aj)) Aw _ ?side1 ?side2 A30.out).mono ?_);(case side1=>repeat (first|exact (Kd.R_reads' Al.out).2.2|(with_reducible refine Kd.C_alloc ?_ _)|(with_reducible refine Kd.C_drewN ?_ _)|(with_reducible refine Kd.C_drew ?_)));(case side2=>exact (Kd.R_reads' Al.out).2.1);rintro e w' ⟨rfl,⟨nd,rfl⟩⟩;(try first|exact ⟨rfl,_,World.drewN_drewN _ _ _⟩|exact ⟨rfl,_,Eq.trans (World.drewN_drewN _ _ _) (congrArg (World.drewN _) (Nat.add_assoc _ _ _))⟩))|((with_reducible refine gate_builtin (b:=.append) (xs:=#[.tmp 58,.tmp 60]) rfl ?_);at_builtin;refine Kd.R_append (Kd.int .i64) (w0:=w) w.heap.size rfl (.tmp 58) (.tmp 60) 23 3 (.int .i64 0) 8 rfl Try.underlying23 info3 rfl (by decide) (by omega) u9 As Aw [.int .i64 Aw] (fun k_=>some k_ ≠ (.slice (some ad125) Ah.length co44 : Value).ownBlock) (fun _=>False) rfl rfl ?aP (fun _ hk=>hk.elim) ?aF ?aO ?aB ?aS ?aL ?_;(case aP=>exact rfl);(case aB=>exact qBs6_5);(case aF=>exact (fun k_ hk=>Kd.fresh' (Kd.R_lt (qRs6_ Al.out)) k_ hk));(case aO=>exact (qRs6_ An.out));(case aS=>exact (below_size qBs6_5));(case aL=>have:=LMc40.out;omega);intro v137 w45 ho hb hg hat;rw [← Ny136.out] at ho;have n0_:=Aside0.mk (Kd.R_after (ok:=(fun _=>True)) (by (with_reducible repeat (first|apply Kd.R_alloc|apply Kd.R_drewN|apply Kd.R_drew));exact Kd.R_mono Al.out (fun _ hk=>⟨trivial,hk⟩)) hg hat);have n1_:=Aside0.mk (Kd.S_after (ok:=(fun k_=>some k_ ≠ (.slice (some ad125) Ah.length co44 : Value).ownBlock)) (by (with_reducible repeat (first|apply Kd.S_alloc|apply Kd.S_drewN|apply Kd.S_drew));exact Ac.out) hg hat);have n2_:=Aside0.mk (blk_grown (g:=gb118) (o:=.cells #[.int .i64 a0_0,.int .i64 a0_1,.slice (some ad126) l0_2.length c0_2,.int .i64 a0_3,.int .u32 a0_4] 63 (0,0)) (qDs6_ Aa.out) hg (Kd.R_ne An.out Aa.out (by decide)));have n3_:=Aside0.mk (blk_grown (g:=Af) (o:=.cells #[.int .i64 0,.int .i64 0,.slice none 0 0,.int .i64 0,.int .u32 0] 63 (0,0)) (qDs6_ Ad.out) hg (Kd.R_ne An.out Ad.out (by decide)));have n4_:=Aside0.mk (blk_grown (g:=Ae) (o:=.cells #[.int .i64 0,.int .i64 a0_1,Ag,.int .i64 0,.int .u32 0] 63 (0,0)) (qDs6_ Ab.out) hg (Kd.R_ne An.out Ab.out (by decide)));have n5_:=Aside0.mk (hb);have n6_:=Aside0.mk (ho);clear Al;clear Ac;clear Aa;clear Ad;clear Ab;clear HB;clear An;have Al:=n0_;have Ac:=n1_;have Aa:=n2_;have Ad:=n3_;have Ab:=n4_;have HB:=n5_;have HO138:=n6_;clear n0_ n1_ n2_ n3_ n4_ n5_ n6_;clear ho hb hg hat));try go_wp2_with (first|(go_at_call 138;(with_reducible refine (slices_Index_int_int.calls k2 _ _ Ah (rd l1 (rd (rd_L1 l0_2 (rd Ah Ak)) Aj)) Aw _ ?side1 ?side2 A30.out).mono ?_);(case side1=>repeat (first|exact (Kd.R_reads' Al.out).2.2|(with_reducible refine Kd.C_alloc ?_ _)|(with_reducible refine Kd.C_drewN ?_ _)|(with_reducible refine Kd.C_drew ?_)));(case side2=>exact (Kd.R_reads' Al.out).2.1);rintro e w' ⟨rfl,⟨nd,rfl⟩⟩;(try first|exact ⟨rfl,_,World.drewN_drewN _ _ _⟩|exact ⟨rfl,_,Eq.trans (World.drewN_drewN _ _ _) (congrArg (World.drewN _) (Nat.add_assoc _ _ _))⟩))|((with_reducible refine gate_builtin (b:=.append) (xs:=#[.tmp 58,.tmp 60]) rfl ?_);at_builtin;refine Kd.R_append (Kd.int .i64) (w0:=w) w.heap.size rfl (.tmp 58) (.tmp 60) 23 3 (.int .i64 0) 8 rfl Try.underlying23 info3 rfl (by decide) (by omega) u9 As Aw [.int .i64 Aw] (fun k_=>some k_ ≠ (.slice (some ad125) Ah.length co44 : Value).ownBlock) (fun _=>False) rfl rfl ?aP (fun _ hk=>hk.elim) ?aF ?aO ?aB ?aS ?aL ?_;(case aP=>exact rfl);(case aB=>exact qBs6_5);(case aF=>exact (fun k_ hk=>Kd.fresh' (Kd.R_lt (qRs6_ Al.out)) k_ hk));(case aO=>exact (qRs6_ An.out));(case aS=>exact (below_size qBs6_5));(case aL=>have:=LMc40.out;omega);intro v137 w45 ho hb hg hat;rw [← Ny136.out] at ho;have n0_:=Aside0.mk (Kd.R_after (ok:=(fun _=>True)) (by (with_reducible repeat (first|apply Kd.R_alloc|apply Kd.R_drewN|apply Kd.R_drew));exact Kd.R_mono Al.out (fun _ hk=>⟨trivial,hk⟩)) hg hat);have n1_:=Aside0.mk (Kd.S_after (ok:=(fun k_=>some k_ ≠ (.slice (some ad125) Ah.length co44 : Value).ownBlock)) (by (with_reducible repeat (first|apply Kd.S_alloc|apply Kd.S_drewN|apply Kd.S_drew));exact Ac.out) hg hat);have n2_:=Aside0.mk (blk_grown (g:=gb118) (o:=.cells #[.int .i64 a0_0,.int .i64 a0_1,.slice (some ad126) l0_2.length c0_2,.int .i64 a0_3,.int .u32 a0_4] 63 (0,0)) (qDs6_ Aa.out) hg (Kd.R_ne An.out Aa.out (by decide)));have n3_:=Aside0.mk (blk_grown (g:=Af) (o:=.cells #[.int .i64 0,.int .i64 0,.slice none 0 0,.int .i64 0,.int .u32 0] 63 (0,0)) (qDs6_ Ad.out) hg (Kd.R_ne An.out Ad.out (by decide)));have n4_:=Aside0.mk (blk_grown (g:=Ae) (o:=.cells #[.int .i64 0,.int .i64 a0_1,Ag,.int .i64 0,.int .u32 0] 63 (0,0)) (qDs6_ Ab.out) hg (Kd.R_ne An.out Ab.out (by decide)));have n5_:=Aside0.mk (hb);have n6_:=Aside0.mk (ho);clear Al;clear Ac;clear Aa;clear Ad;clear Ab;clear HB;clear An;have Al:=n0_;have Ac:=n1_;have Aa:=n2_;have Ad:=n3_;have Ab:=n4_;have HB:=n5_;have HO138:=n6_;clear n0_ n1_ n2_ n3_ n4_ n5_ n6_;clear ho hb hg hat)))
                   go_roundg k2
                   case measure=>have:=HK1.out;have:=HK2.out;omega
                   case rel=>exact ⟨(Ah),(y136),(wrap64 (Aj + 1)),(by first|rfl|(simp;done)|(simp [*];done)),H',⟨by have:=HK1.out;have:=HK2.out;omega⟩,⟨by (with_reducible repeat (first|apply Kd.R_alloc|apply Kd.R_drewN|apply Kd.R_drew));exact Kd.R_mono Al.out (fun _ hk=>hk.2)⟩,⟨by (with_reducible repeat (first|apply Kd.R_alloc|apply Kd.R_drewN|apply Kd.R_drew));exact HO138.out⟩,⟨by (with_reducible repeat (first|apply Kd.S_alloc|apply Kd.S_drewN|apply Kd.S_drew));exact Ac.out⟩,⟨by (with_reducible repeat (first|refine blk_drewN ?_ _|refine blk_drew ?_|refine blk_alloc ?_ _));exact Aa.out⟩,⟨by (with_reducible repeat (first|refine blk_drewN ?_ _|refine blk_drew ?_|refine blk_alloc ?_ _));exact Ad.out⟩,⟨by (with_reducible repeat (first|refine blk_drewN ?_ _|refine blk_drew ?_|refine blk_alloc ?_ _));exact Ab.out⟩,⟨by repeat (first|(with_reducible first|exact HB.out|apply below_alloc|apply pw_below_drewN|apply below_drew1|refine below_set ?_ Ay.out|refine below_set ?_ Az.out|refine below_set ?_ A0.out)|exact HB.out)⟩⟩
                  ·rw [if_neg c40] at H
                   exact absurd H (by simp)
                ·rw [if_neg c29] at H
                 exact absurd H (by simp)
               ·rw [if_neg c28] at H
                exact absurd H (by simp)
              ·rw [if_neg c27] at H
               exact absurd H (by simp)
             ·rw [if_neg c26] at H
              exact absurd H (by simp)
            ·rw [if_neg c25] at H
             exact absurd H (by simp)
           ·rw [if_neg c24] at H
            exact absurd H (by simp)
          ·rw [if_neg c23] at H
           exact absurd H (by simp)
         ·rw [if_neg c22] at H
          exact absurd H (by simp)
        ·rw [if_neg c21] at H
         have c21b0 : decide (Aj < a0_1) = false:=decide_eq_false c21
         clear c21
         by_cases c46 : Ai.length < 5864062014805
         ·rw [if_pos c46] at H
          have LMc46:=Aside0.mk c46
          clear c46
          obtain ⟨y139,hy139⟩ : ∃ y_ : List (List Int),y_ = (Ai ++ [As]):=⟨_,rfl⟩
          replace H : (least_small.l0 k2 l1 Ah (wrap64 (Ak + 1)) a0_0 a0_1 l0_2 a0_3 a0_4 0 a0_1 y139 0 0) = some (r1,r2,r3,r4,r5,r6):=by first|(rw [hy139];with_reducible exact H)|(have H2_:=(Option.bind_some _ _).symm.trans H;rw [hy139];with_reducible exact H2_)|(have H2_:=(Option.bind_some _ _).symm.trans H;with_reducible exact H2_)|with_reducible exact H|(rw [hy139];exact H)|exact H
          have Ny139:=Aside0.mk hy139
          clear hy139
          have H':=Aside0.mk H
          clear H
          have hnb47:=Ap.out
          have hnc47:=Am.out
          have hnb48:=At.out
          have hnc48:=Ao.out
          have hcz49_0 : wr.cell? ⟨Ae,0,none⟩ = some (.int .i64 0):=(blk_cell Ab.out 0).trans rfl
          have hcz49_1 : wr.cell? ⟨Ae,1,none⟩ = some (.int .i64 a0_1):=(blk_cell Ab.out 1).trans rfl
          have hcz49_2 : wr.cell? ⟨Ae,2,none⟩ = some (Ag):=(blk_cell Ab.out 2).trans rfl
          have hcz49_3 : wr.cell? ⟨Ae,3,none⟩ = some (.int .i64 0):=(blk_cell Ab.out 3).trans rfl
          have hcz49_4 : wr.cell? ⟨Ae,4,none⟩ = some (.int .u32 0):=(blk_cell Ab.out 4).trans rfl
          have hfz49_0:=blk_frozen Ab.out 0
          have hfz49_1:=blk_frozen Ab.out 1
          have hfz49_2:=blk_frozen Ab.out 2
          have hfz49_3:=blk_frozen Ab.out 3
          have hfz49_4:=blk_frozen Ab.out 4
          obtain ⟨Ao51,co51,eo51⟩:=Kd.R_slice An.out
          subst eo51
          go_wp2_with (first|((with_reducible refine gate_builtin (b:=.append) (xs:=#[.tmp 64,.tmp 66]) rfl ?_);at_builtin;refine Kd.S_append (Kd.slice 3 (Kd.int .i64)) (w0:=w) w.heap.size rfl (.tmp 64) (.tmp 66) 60 23 (.slice none 0 0) 24 rfl Try.underlying60 info23 rfl (by decide) (by omega) Ag Ai As [.slice Ao51 As.length co51] (fun k_=>some k_ ≠ (u6 : Value).ownBlock) (fun k_=>some k_ = (.slice Ao51 As.length co51 : Value).ownBlock) rfl rfl ?aP (fun k_ hk_=>((Kd.R_mono (ok':=fun k_=>((fun k_=>some k_ ≠ (u6 : Value).ownBlock)) k_ ∧ some k_ ≠ (Ag : Value).ownBlock) (Kd.R_apart' (An.out) (Kd.S_typed Ac.out) (by decide)) (fun k_ hk=>⟨hk.1,hk.2⟩))).1 k_ hk_.symm) ?aF ?aO ?aB ?aS ?aL ?_;(case aP=>exact Kd.M_row (Kd.R_mono (Kd.R_tight rfl (Kd.R_mono (ok':=fun k_=>((fun k_=>some k_ ≠ (u6 : Value).ownBlock)) k_ ∧ some k_ ≠ (Ag : Value).ownBlock) (Kd.R_apart' (An.out) (Kd.S_typed Ac.out) (by decide)) (fun k_ hk=>⟨hk.1,hk.2⟩))) (fun _ h_=>h_)));(case aB=>exact qBs6_5);(case aF=>exact (fun k_ hk=>Kd.fresh' (Kd.R_lt (qRs6_ Al.out)) k_ hk));(case aO=>exact (by (with_reducible repeat (first|apply Kd.S_alloc|apply Kd.S_drewN|apply Kd.S_drew));exact Kd.S_mono Ac.out (fun k_ hk=>⟨hk.1,fun e_=>hk.2 e_⟩)));(case aS=>exact (below_size qBs6_5));(case aL=>have:=LMc46.out;omega);intro v140 w50 ho hb hg hat;rw [← Ny139.out] at ho;have n0_:=Aside0.mk (Kd.R_over' (qRs6_ Al.out) (Kd.S_typed (by (with_reducible repeat (first|apply Kd.S_alloc|apply Kd.S_drewN|apply Kd.S_drew));exact Ac.out)) (by decide) hg);have n1_:=Aside0.mk (blk_grown (g:=gb118) (o:=.cells #[.int .i64 a0_0,.int .i64 a0_1,.slice A0_2 l0_2.length c0_2,.int .i64 a0_3,.int .u32 a0_4] 63 (0,0)) (qDs6_ Aa.out) hg (Kd.S_ne Ac.out Aa.out (by decide)));have n2_:=Aside0.mk (blk_grown (g:=Af) (o:=.cells #[.int .i64 0,.int .i64 0,.slice none 0 0,.int .i64 0,.int .u32 0] 63 (0,0)) (qDs6_ Ad.out) hg (Kd.S_ne Ac.out Ad.out (by decide)));have n3_:=Aside0.mk (blk_grown (g:=Ae) (o:=.cells #[.int .i64 0,.int .i64 a0_1,Ag,.int .i64 0,.int .u32 0] 63 (0,0)) (qDs6_ Ab.out) hg (Kd.S_ne Ac.out Ab.out (by decide)));have n4_:=Aside0.mk (hb);have n5_:=Aside0.mk (ho);clear Al;clear Aa;clear Ad;clear Ab;clear HB;clear Ac;clear An;have Al:=n0_;have Aa:=n1_;have Ad:=n2_;have Ab:=n3_;have HB:=n4_;have Bm:=n5_;clear n0_ n1_ n2_ n3_ n4_ n5_;clear ho hb hg hat;obtain ⟨Ao52,co52,eo52⟩:=Kd.S_slice Bm.out;subst eo52;have hcz53_0 : w50.cell? ⟨Ae,0,none⟩ = some (.int .i64 0):=(blk_cell Ab.out 0).trans rfl;have hcz53_1 : w50.cell? ⟨Ae,1,none⟩ = some (.int .i64 a0_1):=(blk_cell Ab.out 1).trans rfl;have hcz53_2 : w50.cell? ⟨Ae,2,none⟩ = some (Ag):=(blk_cell Ab.out 2).trans rfl;have hcz53_3 : w50.cell? ⟨Ae,3,none⟩ = some (.int .i64 0):=(blk_cell Ab.out 3).trans rfl;have hcz53_4 : w50.cell? ⟨Ae,4,none⟩ = some (.int .u32 0):=(blk_cell Ab.out 4).trans rfl;have hfz53_0:=blk_frozen Ab.out 0;have hfz53_1:=blk_frozen Ab.out 1;have hfz53_2:=blk_frozen Ab.out 2;have hfz53_3:=blk_frozen Ab.out 3;have hfz53_4:=blk_frozen Ab.out 4))
          repeat (go_quiet (first|((with_reducible refine gate_builtin (b:=.append) (xs:=#[.tmp 64,.tmp 66]) rfl ?_);at_builtin;refine Kd.S_append (Kd.slice 3 (Kd.int .i64)) (w0:=w) w.heap.size rfl (.tmp 64) (.tmp 66) 60 23 (.slice none 0 0) 24 rfl Try.underlying60 info23 rfl (by decide) (by omega) Ag Ai As [.slice Ao51 As.length co51] (fun k_=>some k_ ≠ (u6 : Value).ownBlock) (fun k_=>some k_ = (.slice Ao51 As.length co51 : Value).ownBlock) rfl rfl ?aP (fun k_ hk_=>((Kd.R_mono (ok':=fun k_=>((fun k_=>some k_ ≠ (u6 : Value).ownBlock)) k_ ∧ some k_ ≠ (Ag : Value).ownBlock) (Kd.R_apart' (An.out) (Kd.S_typed Ac.out) (by decide)) (fun k_ hk=>⟨hk.1,hk.2⟩))).1 k_ hk_.symm) ?aF ?aO ?aB ?aS ?aL ?_;(case aP=>exact Kd.M_row (Kd.R_mono (Kd.R_tight rfl (Kd.R_mono (ok':=fun k_=>((fun k_=>some k_ ≠ (u6 : Value).ownBlock)) k_ ∧ some k_ ≠ (Ag : Value).ownBlock) (Kd.R_apart' (An.out) (Kd.S_typed Ac.out) (by decide)) (fun k_ hk=>⟨hk.1,hk.2⟩))) (fun _ h_=>h_)));(case aB=>exact qBs6_5);(case aF=>exact (fun k_ hk=>Kd.fresh' (Kd.R_lt (qRs6_ Al.out)) k_ hk));(case aO=>exact (by (with_reducible repeat (first|apply Kd.S_alloc|apply Kd.S_drewN|apply Kd.S_drew));exact Kd.S_mono Ac.out (fun k_ hk=>⟨hk.1,fun e_=>hk.2 e_⟩)));(case aS=>exact (below_size qBs6_5));(case aL=>have:=LMc46.out;omega);intro v140 w50 ho hb hg hat;rw [← Ny139.out] at ho;have n0_:=Aside0.mk (Kd.R_over' (qRs6_ Al.out) (Kd.S_typed (by (with_reducible repeat (first|apply Kd.S_alloc|apply Kd.S_drewN|apply Kd.S_drew));exact Ac.out)) (by decide) hg);have n1_:=Aside0.mk (blk_grown (g:=gb118) (o:=.cells #[.int .i64 a0_0,.int .i64 a0_1,.slice A0_2 l0_2.length c0_2,.int .i64 a0_3,.int .u32 a0_4] 63 (0,0)) (qDs6_ Aa.out) hg (Kd.S_ne Ac.out Aa.out (by decide)));have n2_:=Aside0.mk (blk_grown (g:=Af) (o:=.cells #[.int .i64 0,.int .i64 0,.slice none 0 0,.int .i64 0,.int .u32 0] 63 (0,0)) (qDs6_ Ad.out) hg (Kd.S_ne Ac.out Ad.out (by decide)));have n3_:=Aside0.mk (blk_grown (g:=Ae) (o:=.cells #[.int .i64 0,.int .i64 a0_1,Ag,.int .i64 0,.int .u32 0] 63 (0,0)) (qDs6_ Ab.out) hg (Kd.S_ne Ac.out Ab.out (by decide)));have n4_:=Aside0.mk (hb);have n5_:=Aside0.mk (ho);clear Al;clear Aa;clear Ad;clear Ab;clear HB;clear Ac;clear An;have Al:=n0_;have Aa:=n1_;have Ad:=n2_;have Ab:=n3_;have HB:=n4_;have Bm:=n5_;clear n0_ n1_ n2_ n3_ n4_ n5_;clear ho hb hg hat;obtain ⟨Ao52,co52,eo52⟩:=Kd.S_slice Bm.out;subst eo52;have hcz53_0 : w50.cell? ⟨Ae,0,none⟩ = some (.int .i64 0):=(blk_cell Ab.out 0).trans rfl;have hcz53_1 : w50.cell? ⟨Ae,1,none⟩ = some (.int .i64 a0_1):=(blk_cell Ab.out 1).trans rfl;have hcz53_2 : w50.cell? ⟨Ae,2,none⟩ = some (Ag):=(blk_cell Ab.out 2).trans rfl;have hcz53_3 : w50.cell? ⟨Ae,3,none⟩ = some (.int .i64 0):=(blk_cell Ab.out 3).trans rfl;have hcz53_4 : w50.cell? ⟨Ae,4,none⟩ = some (.int .u32 0):=(blk_cell Ab.out 4).trans rfl;have hfz53_0:=blk_frozen Ab.out 0;have hfz53_1:=blk_frozen Ab.out 1;have hfz53_2:=blk_frozen Ab.out 2;have hfz53_3:=blk_frozen Ab.out 3;have hfz53_4:=blk_frozen Ab.out 4));try go_wp2_with (first|((with_reducible refine gate_builtin (b:=.append) (xs:=#[.tmp 64,.tmp 66]) rfl ?_);at_builtin;refine Kd.S_append (Kd.slice 3 (Kd.int .i64)) (w0:=w) w.heap.size rfl (.tmp 64) (.tmp 66) 60 23 (.slice none 0 0) 24 rfl Try.underlying60 info23 rfl (by decide) (by omega) Ag Ai As [.slice Ao51 As.length co51] (fun k_=>some k_ ≠ (u6 : Value).ownBlock) (fun k_=>some k_ = (.slice Ao51 As.length co51 : Value).ownBlock) rfl rfl ?aP (fun k_ hk_=>((Kd.R_mono (ok':=fun k_=>((fun k_=>some k_ ≠ (u6 : Value).ownBlock)) k_ ∧ some k_ ≠ (Ag : Value).ownBlock) (Kd.R_apart' (An.out) (Kd.S_typed Ac.out) (by decide)) (fun k_ hk=>⟨hk.1,hk.2⟩))).1 k_ hk_.symm) ?aF ?aO ?aB ?aS ?aL ?_;(case aP=>exact Kd.M_row (Kd.R_mono (Kd.R_tight rfl (Kd.R_mono (ok':=fun k_=>((fun k_=>some k_ ≠ (u6 : Value).ownBlock)) k_ ∧ some k_ ≠ (Ag : Value).ownBlock) (Kd.R_apart' (An.out) (Kd.S_typed Ac.out) (by decide)) (fun k_ hk=>⟨hk.1,hk.2⟩))) (fun _ h_=>h_)));(case aB=>exact qBs6_5);(case aF=>exact (fun k_ hk=>Kd.fresh' (Kd.R_lt (qRs6_ Al.out)) k_ hk));(case aO=>exact (by (with_reducible repeat (first|apply Kd.S_alloc|apply Kd.S_drewN|apply Kd.S_drew));exact Kd.S_mono Ac.out (fun k_ hk=>⟨hk.1,fun e_=>hk.2 e_⟩)));(case aS=>exact (below_size qBs6_5));(case aL=>have:=LMc46.out;omega);intro v140 w50 ho hb hg hat;rw [← Ny139.out] at ho;have n0_:=Aside0.mk (Kd.R_over' (qRs6_ Al.out) (Kd.S_typed (by (with_reducible repeat (first|apply Kd.S_alloc|apply Kd.S_drewN|apply Kd.S_drew));exact Ac.out)) (by decide) hg);have n1_:=Aside0.mk (blk_grown (g:=gb118) (o:=.cells #[.int .i64 a0_0,.int .i64 a0_1,.slice A0_2 l0_2.length c0_2,.int .i64 a0_3,.int .u32 a0_4] 63 (0,0)) (qDs6_ Aa.out) hg (Kd.S_ne Ac.out Aa.out (by decide)));have n2_:=Aside0.mk (blk_grown (g:=Af) (o:=.cells #[.int .i64 0,.int .i64 0,.slice none 0 0,.int .i64 0,.int .u32 0] 63 (0,0)) (qDs6_ Ad.out) hg (Kd.S_ne Ac.out Ad.out (by decide)));have n3_:=Aside0.mk (blk_grown (g:=Ae) (o:=.cells #[.int .i64 0,.int .i64 a0_1,Ag,.int .i64 0,.int .u32 0] 63 (0,0)) (qDs6_ Ab.out) hg (Kd.S_ne Ac.out Ab.out (by decide)));have n4_:=Aside0.mk (hb);have n5_:=Aside0.mk (ho);clear Al;clear Aa;clear Ad;clear Ab;clear HB;clear Ac;clear An;have Al:=n0_;have Aa:=n1_;have Ad:=n2_;have Ab:=n3_;have HB:=n4_;have Bm:=n5_;clear n0_ n1_ n2_ n3_ n4_ n5_;clear ho hb hg hat;obtain ⟨Ao52,co52,eo52⟩:=Kd.S_slice Bm.out;subst eo52;have hcz53_0 : w50.cell? ⟨Ae,0,none⟩ = some (.int .i64 0):=(blk_cell Ab.out 0).trans rfl;have hcz53_1 : w50.cell? ⟨Ae,1,none⟩ = some (.int .i64 a0_1):=(blk_cell Ab.out 1).trans rfl;have hcz53_2 : w50.cell? ⟨Ae,2,none⟩ = some (Ag):=(blk_cell Ab.out 2).trans rfl;have hcz53_3 : w50.cell? ⟨Ae,3,none⟩ = some (.int .i64 0):=(blk_cell Ab.out 3).trans rfl;have hcz53_4 : w50.cell? ⟨Ae,4,none⟩ = some (.int .u32 0):=(blk_cell Ab.out 4).trans rfl;have hfz53_0:=blk_frozen Ab.out 0;have hfz53_1:=blk_frozen Ab.out 1;have hfz53_2:=blk_frozen Ab.out 2;have hfz53_3:=blk_frozen Ab.out 3;have hfz53_4:=blk_frozen Ab.out 4)))
          go_roundg k2
          case measure=>have:=HK1.out;have:=HK2.out;omega
          case rel=>exact ⟨(Ah),(wrap64 (Ak + 1)),(y139),(.slice Ao52 y139.length co52),(by first|rfl|(simp;done)|(simp [*];done)),H',⟨by have:=HK1.out;have:=HK2.out;omega⟩,⟨by (with_reducible repeat (first|apply Kd.R_alloc|apply Kd.R_drewN|apply Kd.R_drew));exact Kd.R_mono (Kd.R_far (p:=⟨Ae,2,none⟩) (Kd.R_types Al.out Ab.out (by decide)) (fun _ hk=>hk.2) (.slice Ao52 y139.length co52)) (fun _ hk=>trivial)⟩,⟨by (with_reducible repeat (first|apply Kd.S_alloc|apply Kd.S_drewN|apply Kd.S_drew));exact Kd.S_mono (Kd.S_far (p:=⟨Ae,2,none⟩) (Kd.S_types Bm.out Ab.out (by decide)) (fun _ hk=>hk.2) (.slice Ao52 y139.length co52)) (fun _ hk=>hk.1)⟩,⟨by (with_reducible repeat (first|refine blk_drewN ?_ _|refine blk_drew ?_|refine blk_alloc ?_ _));refine blk_far ?_ Am.out _;(with_reducible repeat (first|refine blk_drewN ?_ _|refine blk_drew ?_|refine blk_alloc ?_ _));exact Aa.out⟩,⟨by (with_reducible repeat (first|refine blk_drewN ?_ _|refine blk_drew ?_|refine blk_alloc ?_ _));refine blk_far ?_ Ao.out _;(with_reducible repeat (first|refine blk_drewN ?_ _|refine blk_drew ?_|refine blk_alloc ?_ _));exact Ad.out⟩,⟨by (with_reducible repeat (first|refine blk_drewN ?_ _|refine blk_drew ?_|refine blk_alloc ?_ _));refine blk_put (cs:=#[.int .i64 0,.int .i64 a0_1,Ag,.int .i64 0,.int .u32 0]) ?_ 2 _ rfl;(with_reducible repeat (first|refine blk_drewN ?_ _|refine blk_drew ?_|refine blk_alloc ?_ _));exact Ab.out⟩,⟨by repeat (first|(with_reducible first|exact HB.out|apply below_alloc|apply pw_below_drewN|apply below_drew1|refine below_set ?_ Ay.out|refine below_set ?_ Az.out|refine below_set ?_ A0.out)|exact HB.out)⟩⟩
         ·rw [if_neg c46] at H
          exact absurd H (by simp)
     ·rw [if_neg c16] at H
      have c16b0 : decide (Ak < (Ax.length : Int)) = false:=decide_eq_false c16
      clear c16
      simp only [Option.some.injEq,Prod.mk.injEq] at H
      obtain ⟨rfl,rfl,rfl,rfl,rfl,rfl⟩:=H
      obtain ⟨Ao54,co54,eo54⟩:=Kd.R_slice Al.out
      subst eo54
      have hnb55:=Ap.out
      have hnc55:=Am.out
      have hnb56:=At.out
      have hnc56:=Ao.out
      have hcz57_0 : wr.cell? ⟨Ae,0,none⟩ = some (.int .i64 0):=(blk_cell Ab.out 0).trans rfl
      have hcz57_1 : wr.cell? ⟨Ae,1,none⟩ = some (.int .i64 a0_1):=(blk_cell Ab.out 1).trans rfl
      have hcz57_2 : wr.cell? ⟨Ae,2,none⟩ = some (Ag):=(blk_cell Ab.out 2).trans rfl
      have hcz57_3 : wr.cell? ⟨Ae,3,none⟩ = some (.int .i64 0):=(blk_cell Ab.out 3).trans rfl
      have hcz57_4 : wr.cell? ⟨Ae,4,none⟩ = some (.int .u32 0):=(blk_cell Ab.out 4).trans rfl
      have hfz57_0:=blk_frozen Ab.out 0
      have hfz57_1:=blk_frozen Ab.out 1
      have hfz57_2:=blk_frozen Ab.out 2
      have hfz57_3:=blk_frozen Ab.out 3
      have hfz57_4:=blk_frozen Ab.out 4
      have hnb58:=Ar.out
      have hnc58:=Aq.out
      have hcz59_0 : wr.cell? ⟨Af,0,none⟩ = some (.int .i64 0):=(blk_cell Ad.out 0).trans rfl
      have hcz59_1 : wr.cell? ⟨Af,1,none⟩ = some (.int .i64 0):=(blk_cell Ad.out 1).trans rfl
      have hcz59_2 : wr.cell? ⟨Af,2,none⟩ = some (.slice none 0 0):=(blk_cell Ad.out 2).trans rfl
      have hcz59_3 : wr.cell? ⟨Af,3,none⟩ = some (.int .i64 0):=(blk_cell Ad.out 3).trans rfl
      have hcz59_4 : wr.cell? ⟨Af,4,none⟩ = some (.int .u32 0):=(blk_cell Ad.out 4).trans rfl
      have hfz59_0:=blk_frozen Ad.out 0
      have hfz59_1:=blk_frozen Ad.out 1
      have hfz59_2:=blk_frozen Ad.out 2
      have hfz59_3:=blk_frozen Ad.out 3
      have hfz59_4:=blk_frozen Ad.out 4
      obtain ⟨Ao60,co60,eo60⟩:=Kd.S_slice Ac.out
      subst eo60
      go_wp2
      repeat (go_quiet (fail);try go_wp2)
      refine bodyPost_ret (results_ct rfl _ _ Af 63 #[.int .i64 (Ax.length : Int),.int .i64 a0_1,.slice Ao60 Ai.length co60,.int .i64 0,.int .u32 0] (0,0) _ rfl (by (with_reducible repeat (first|refine blk_drewN ?_ _|refine blk_drew ?_|refine blk_alloc ?_ _));refine blk_put (cs:=#[.int .i64 (Ax.length : Int),.int .i64 a0_1,.slice Ao60 Ai.length co60,.int .i64 0,.int .u32 0]) ?_ 4 _ rfl;(with_reducible repeat (first|refine blk_drewN ?_ _|refine blk_drew ?_|refine blk_alloc ?_ _));refine blk_put (cs:=#[.int .i64 (Ax.length : Int),.int .i64 a0_1,.slice Ao60 Ai.length co60,.int .i64 0,.int .u32 0]) ?_ 3 _ rfl;(with_reducible repeat (first|refine blk_drewN ?_ _|refine blk_drew ?_|refine blk_alloc ?_ _));refine blk_put (cs:=#[.int .i64 (Ax.length : Int),.int .i64 a0_1,.slice none 0 0,.int .i64 0,.int .u32 0]) ?_ 2 _ rfl;(with_reducible repeat (first|refine blk_drewN ?_ _|refine blk_drew ?_|refine blk_alloc ?_ _));refine blk_put (cs:=#[.int .i64 (Ax.length : Int),.int .i64 0,.slice none 0 0,.int .i64 0,.int .u32 0]) ?_ 1 _ rfl;(with_reducible repeat (first|refine blk_drewN ?_ _|refine blk_drew ?_|refine blk_alloc ?_ _));refine blk_put (cs:=#[.int .i64 0,.int .i64 0,.slice none 0 0,.int .i64 0,.int .u32 0]) ?_ 0 _ rfl;(with_reducible repeat (first|refine blk_drewN ?_ _|refine blk_drew ?_|refine blk_alloc ?_ _));refine blk_far ?_ Ao.out _;(with_reducible repeat (first|refine blk_drewN ?_ _|refine blk_drew ?_|refine blk_alloc ?_ _));exact Ad.out) Try.underlying63 rfl (by kernel_rfl)) rfl ?_
      exact ⟨_,_,by first|rfl|(simp [errW_none,errW_some] <;> rfl)|(simp [*,errW_none,errW_some] <;> rfl),by (with_reducible repeat (first|apply Kd.S_alloc|apply Kd.S_drewN|apply Kd.S_drew));exact Kd.S_mono (Kd.S_far (p:=⟨Af,4,none⟩) (Kd.S_far (p:=⟨Af,3,none⟩) (Kd.S_far (p:=⟨Af,2,none⟩) (Kd.S_far (p:=⟨Af,1,none⟩) (Kd.S_far (p:=⟨Af,0,none⟩) (Kd.S_far (p:=⟨Ae,0,none⟩) (Kd.S_types (Kd.S_types Ac.out Ab.out (by decide)) Ad.out (by decide)) (fun _ hk=>hk.1.2) (.int .i64 (Ax.length : Int))) (fun _ hk=>hk.2) (.int .i64 (Ax.length : Int))) (fun _ hk=>hk.2) (.int .i64 a0_1)) (fun _ hk=>hk.2) (.slice Ao60 Ai.length co60)) (fun _ hk=>hk.2) (.int .i64 0)) (fun _ hk=>hk.2) (.int .u32 0)) (fun _ hk=>hk.1.1),by (with_reducible repeat (first|apply Kd.R_alloc|apply Kd.R_drewN|apply Kd.R_drew));exact Kd.R_mono (Kd.R_far (p:=⟨Af,4,none⟩) (Kd.R_far (p:=⟨Af,3,none⟩) (Kd.R_far (p:=⟨Af,2,none⟩) (Kd.R_far (p:=⟨Af,1,none⟩) (Kd.R_far (p:=⟨Af,0,none⟩) (Kd.R_far (p:=⟨Ae,0,none⟩) (Kd.R_types (Kd.R_types Al.out Ab.out (by decide)) Ad.out (by decide)) (fun _ hk=>hk.1.2) (.int .i64 (Ax.length : Int))) (fun _ hk=>hk.2) (.int .i64 (Ax.length : Int))) (fun _ hk=>hk.2) (.int .i64 a0_1)) (fun _ hk=>hk.2) (.slice Ao60 Ai.length co60)) (fun _ hk=>hk.2) (.int .i64 0)) (fun _ hk=>hk.2) (.int .u32 0)) (fun _ hk=>trivial),by repeat (first|(with_reducible first|exact HB.out|apply below_alloc|apply pw_below_drewN|apply below_drew1|refine below_set ?_ Ay.out|refine below_set ?_ Az.out|refine below_set ?_ A0.out)|exact HB.out)⟩
  ·rw [if_neg c4] at H
   exact absurd H (by simp)
 ·rw [if_neg c3] at H
  exact absurd H (by simp)
end Go.Proofs.Ythgiiikjcfhgjaa.GV
