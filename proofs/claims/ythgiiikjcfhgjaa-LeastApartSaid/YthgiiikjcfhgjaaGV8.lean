-- Written by ext.py, a program of this session.
import Derived.Test.YthgiiikjcfhgjaaGV0
import Derived.Test.YthgiiikjcfhgjaaGV7
namespace Go.Proofs.Ythgiiikjcfhgjaa.GV
open Go.RowKit Go.Proofs.YthgiiikjcfhgjaaW.PrintWords Go.Proofs.YthgiiikjcfhgjaaW.PrintLast Go.Proofs.YthgiiikjcfhgjaaW.PrintMore
attribute [local go_sem] max2_int min2_int max_two min_two max_three min_three max_four min_four cellIs_set   -- for this text's walks alone
set_option linter.unusedVariables false
set_option linter.unusedSimpArgs false
/-! ### least_parts: function 139 -/
mutual
def least_parts.l0 : Nat → List Bool → List Int → Int → Int → Int → Int → List (List Int) → Int → Int → Option (List Int)
 | 0,_,_,_,_,_,_,_,_,_=>none
 | k + 1,x1,x5,x16,x17,x146000,x146001,x146002,x146003,x146004=>if x17 < x16 then (if 0 ≤ x17 then (if x17 < (x1.length : Int) then ((slices_Index_bool_bool.f k x1 (rdOf false x1 x17)).bind fun t150=>(if x17 < (x5.length : Int) then (least_parts.l0 k x1 (x5.set (x17 : Int).toNat t150) x16 (wrap64 (x17 + 1)) x146000 x146001 x146002 x146003 x146004) else (none))) else (none)) else (none)) else (least_parts.l1 k x5 x146000 x146001 x146002 x146003 x146004)
def least_parts.l1 : Nat → List Int → Int → Int → List (List Int) → Int → Int → Option (List Int)
 | 0,_,_,_,_,_,_=>none
 | k + 1,x5,x146000,x146001,x146002,x146003,x146004=>if 0 ≤ x146000 then (if (x146000 : Int).toNat ≤ 35184372088832 then ((some (List.replicate (x146000 : Int).toNat 0 : List Int)).bind fun y152=>(least_parts.l2 k x5 y152 (y152.length : Int) 0 x146000 x146001 x146002 x146003 x146004)) else (none)) else (none)
def least_parts.l2 : Nat → List Int → List Int → Int → Int → Int → Int → List (List Int) → Int → Int → Option (List Int)
 | 0,_,_,_,_,_,_,_,_,_=>none
 | k + 1,x5,x7,x34,x35,x146000,x146001,x146002,x146003,x146004=>if x35 < x34 then (least_parts.l3 k x5 x7 x35 x34 x35 (wrap64 (x35 + 1)) 0 x146000 x146001 x146002 x146003 x146004) else ((slices_Equal_int_int.f k x7 x5).bind fun t155=>(if t155 = true then (some x7) else (least_parts.l1 k x7 x146000 x146001 x146002 x146003 x146004)))
def least_parts.l3 : Nat → List Int → List Int → Int → Int → Int → Int → Int → Int → Int → List (List Int) → Int → Int → Option (List Int)
 | 0,_,_,_,_,_,_,_,_,_,_,_,_=>none
 | k + 1,x5,x7,x8,x34,x35,x39,x40,x146000,x146001,x146002,x146003,x146004=>if x40 < x39 then (if 0 ≤ x8 then (if x8 < (x5.length : Int) then (if 0 ≤ x40 then (if x40 < (x5.length : Int) then (least_parts.l4 k x5 x7 x8 x40 ((rd x5 x8) == (rd x5 x40)) x34 x35 x39 x40 x146001 0 x146000 x146001 x146002 x146003 x146004) else (none)) else (none)) else (none)) else (none)) else (least_parts.l2 k x5 x7 x34 (wrap64 (x35 + 1)) x146000 x146001 x146002 x146003 x146004)
def least_parts.l4 : Nat → List Int → List Int → Int → Int → Bool → Int → Int → Int → Int → Int → Int → Int → Int → List (List Int) → Int → Int → Option (List Int)
 | 0,_,_,_,_,_,_,_,_,_,_,_,_,_,_,_,_=>none
 | k + 1,x5,x7,x8,x9,x10,x34,x35,x39,x40,x53,x54,x146000,x146001,x146002,x146003,x146004=>if x54 < x53 then (if x10 = true then (if 0 ≤ x8 then (if x8 < (x146002.length : Int) then (if 0 ≤ x54 then (if x54 < ((rd_L1 x146002 x8).length : Int) then (if 0 ≤ (rd (rd_L1 x146002 x8) x54) then (if (rd (rd_L1 x146002 x8) x54) < (x5.length : Int) then (if 0 ≤ x9 then (if x9 < (x146002.length : Int) then (if x54 < ((rd_L1 x146002 x9).length : Int) then (if 0 ≤ (rd (rd_L1 x146002 x9) x54) then (if (rd (rd_L1 x146002 x9) x54) < (x5.length : Int) then (least_parts.l4 k x5 x7 x8 x9 ((rd x5 (rd (rd_L1 x146002 x8) x54)) == (rd x5 (rd (rd_L1 x146002 x9) x54))) x34 x35 x39 x40 x53 (wrap64 (x54 + 1)) x146000 x146001 x146002 x146003 x146004) else (none)) else (none)) else (none)) else (none)) else (none)) else (none)) else (none)) else (none)) else (none)) else (none)) else (none)) else (least_parts.l4 k x5 x7 x8 x9 false x34 x35 x39 x40 x53 (wrap64 (x54 + 1)) x146000 x146001 x146002 x146003 x146004)) else (if x10 = true then (if 0 ≤ x8 then (if x8 < (x7.length : Int) then (least_parts.l2 k x5 (x7.set (x8 : Int).toNat x9) x34 (wrap64 (x35 + 1)) x146000 x146001 x146002 x146003 x146004) else (none)) else (none)) else (least_parts.l3 k x5 x7 x8 x34 x35 x39 (wrap64 (x40 + 1)) x146000 x146001 x146002 x146003 x146004))
end
def least_parts.f (k : Nat) (a0_0 : Int) (a0_1 : Int) (l0_2 : List (List Int)) (a0_3 : Int) (a0_4 : Int) (l1 : List Bool) : Option (List Int):=if 0 ≤ a0_0 then (if (a0_0 : Int).toNat ≤ 35184372088832 then ((some (List.replicate (a0_0 : Int).toNat 0 : List Int)).bind fun y146=>(least_parts.l0 k l1 y146 (y146.length : Int) 0 a0_0 a0_1 l0_2 a0_3 a0_4)) else (none)) else (none)
theorem least_parts.mono_l : ∀ k,(∀ y0 y1 y2 y3 y4 y5 y6 y7 y8,LeO (least_parts.l0 k y0 y1 y2 y3 y4 y5 y6 y7 y8) (least_parts.l0 (k + 1) y0 y1 y2 y3 y4 y5 y6 y7 y8)) ∧ (∀ y0 y1 y2 y3 y4 y5,LeO (least_parts.l1 k y0 y1 y2 y3 y4 y5) (least_parts.l1 (k + 1) y0 y1 y2 y3 y4 y5)) ∧ (∀ y0 y1 y2 y3 y4 y5 y6 y7 y8,LeO (least_parts.l2 k y0 y1 y2 y3 y4 y5 y6 y7 y8) (least_parts.l2 (k + 1) y0 y1 y2 y3 y4 y5 y6 y7 y8)) ∧ (∀ y0 y1 y2 y3 y4 y5 y6 y7 y8 y9 y10 y11,LeO (least_parts.l3 k y0 y1 y2 y3 y4 y5 y6 y7 y8 y9 y10 y11) (least_parts.l3 (k + 1) y0 y1 y2 y3 y4 y5 y6 y7 y8 y9 y10 y11)) ∧ (∀ y0 y1 y2 y3 y4 y5 y6 y7 y8 y9 y10 y11 y12 y13 y14 y15,LeO (least_parts.l4 k y0 y1 y2 y3 y4 y5 y6 y7 y8 y9 y10 y11 y12 y13 y14 y15) (least_parts.l4 (k + 1) y0 y1 y2 y3 y4 y5 y6 y7 y8 y9 y10 y11 y12 y13 y14 y15))
 | 0=>⟨fun _ _ _ _ _ _ _ _ _ r h=>by simp [least_parts.l0] at h,fun _ _ _ _ _ _ r h=>by simp [least_parts.l1] at h,fun _ _ _ _ _ _ _ _ _ r h=>by simp [least_parts.l2] at h,fun _ _ _ _ _ _ _ _ _ _ _ _ r h=>by simp [least_parts.l3] at h,fun _ _ _ _ _ _ _ _ _ _ _ _ _ _ _ _ r h=>by simp [least_parts.l4] at h⟩
 | k + 1=>by
  obtain ⟨ih0,ih1,ih2,ih3,ih4⟩:=least_parts.mono_l k
  refine ⟨?_,?_,?_,?_,?_⟩
  ·intro y0 y1 y2 y3 y4 y5 y6 y7 y8
   unfold least_parts.l0
   repeat' first
   | (with_reducible exact ih0 _ _ _ _ _ _ _ _ _)
   | (with_reducible exact ih1 _ _ _ _ _ _)
   | (with_reducible exact ih2 _ _ _ _ _ _ _ _ _)
   | (with_reducible exact ih3 _ _ _ _ _ _ _ _ _ _ _ _)
   | (with_reducible exact ih4 _ _ _ _ _ _ _ _ _ _ _ _ _ _ _ _)
   | (with_reducible exact slices_Equal_int_int.mono _ _ _)
   | (with_reducible exact slices_Index_bool_bool.mono _ _ _)
   | (with_reducible exact LeO.refl _)
   | (with_reducible exact LeO.none _)
   | (with_reducible refine LeO.ite ?_ ?_)
   | (with_reducible refine LeO.bind ?_ (fun _=>?_))
   | exact ih0 _ _ _ _ _ _ _ _ _
   | exact ih1 _ _ _ _ _ _
   | exact ih2 _ _ _ _ _ _ _ _ _
   | exact ih3 _ _ _ _ _ _ _ _ _ _ _ _
   | exact ih4 _ _ _ _ _ _ _ _ _ _ _ _ _ _ _ _
   | exact slices_Equal_int_int.mono _ _ _
   | exact slices_Index_bool_bool.mono _ _ _
   | exact LeO.none _
   | refine LeO.ite ?_ ?_
   | refine LeO.bind ?_ (fun _=>?_)
  ·intro y0 y1 y2 y3 y4 y5
   unfold least_parts.l1
   repeat' first
   | (with_reducible exact ih0 _ _ _ _ _ _ _ _ _)
   | (with_reducible exact ih1 _ _ _ _ _ _)
   | (with_reducible exact ih2 _ _ _ _ _ _ _ _ _)
   | (with_reducible exact ih3 _ _ _ _ _ _ _ _ _ _ _ _)
   | (with_reducible exact ih4 _ _ _ _ _ _ _ _ _ _ _ _ _ _ _ _)
   | (with_reducible exact slices_Equal_int_int.mono _ _ _)
   | (with_reducible exact slices_Index_bool_bool.mono _ _ _)
   | (with_reducible exact LeO.refl _)
   | (with_reducible exact LeO.none _)
   | (with_reducible refine LeO.ite ?_ ?_)
   | (with_reducible refine LeO.bind ?_ (fun _=>?_))
   | exact ih0 _ _ _ _ _ _ _ _ _
   | exact ih1 _ _ _ _ _ _
   | exact ih2 _ _ _ _ _ _ _ _ _
   | exact ih3 _ _ _ _ _ _ _ _ _ _ _ _
   | exact ih4 _ _ _ _ _ _ _ _ _ _ _ _ _ _ _ _
   | exact slices_Equal_int_int.mono _ _ _
   | exact slices_Index_bool_bool.mono _ _ _
   | exact LeO.none _
   | refine LeO.ite ?_ ?_
   | refine LeO.bind ?_ (fun _=>?_)
  ·intro y0 y1 y2 y3 y4 y5 y6 y7 y8
   unfold least_parts.l2
   repeat' first
   | (with_reducible exact ih0 _ _ _ _ _ _ _ _ _)
   | (with_reducible exact ih1 _ _ _ _ _ _)
   | (with_reducible exact ih2 _ _ _ _ _ _ _ _ _)
   | (with_reducible exact ih3 _ _ _ _ _ _ _ _ _ _ _ _)
   | (with_reducible exact ih4 _ _ _ _ _ _ _ _ _ _ _ _ _ _ _ _)
   | (with_reducible exact slices_Equal_int_int.mono _ _ _)
   | (with_reducible exact slices_Index_bool_bool.mono _ _ _)
   | (with_reducible exact LeO.refl _)
   | (with_reducible exact LeO.none _)
   | (with_reducible refine LeO.ite ?_ ?_)
   | (with_reducible refine LeO.bind ?_ (fun _=>?_))
   | exact ih0 _ _ _ _ _ _ _ _ _
   | exact ih1 _ _ _ _ _ _
   | exact ih2 _ _ _ _ _ _ _ _ _
   | exact ih3 _ _ _ _ _ _ _ _ _ _ _ _
   | exact ih4 _ _ _ _ _ _ _ _ _ _ _ _ _ _ _ _
   | exact slices_Equal_int_int.mono _ _ _
   | exact slices_Index_bool_bool.mono _ _ _
   | exact LeO.none _
   | refine LeO.ite ?_ ?_
   | refine LeO.bind ?_ (fun _=>?_)
  ·intro y0 y1 y2 y3 y4 y5 y6 y7 y8 y9 y10 y11
   unfold least_parts.l3
   repeat' first
   | (with_reducible exact ih0 _ _ _ _ _ _ _ _ _)
   | (with_reducible exact ih1 _ _ _ _ _ _)
   | (with_reducible exact ih2 _ _ _ _ _ _ _ _ _)
   | (with_reducible exact ih3 _ _ _ _ _ _ _ _ _ _ _ _)
   | (with_reducible exact ih4 _ _ _ _ _ _ _ _ _ _ _ _ _ _ _ _)
   | (with_reducible exact slices_Equal_int_int.mono _ _ _)
   | (with_reducible exact slices_Index_bool_bool.mono _ _ _)
   | (with_reducible exact LeO.refl _)
   | (with_reducible exact LeO.none _)
   | (with_reducible refine LeO.ite ?_ ?_)
   | (with_reducible refine LeO.bind ?_ (fun _=>?_))
   | exact ih0 _ _ _ _ _ _ _ _ _
   | exact ih1 _ _ _ _ _ _
   | exact ih2 _ _ _ _ _ _ _ _ _
   | exact ih3 _ _ _ _ _ _ _ _ _ _ _ _
   | exact ih4 _ _ _ _ _ _ _ _ _ _ _ _ _ _ _ _
   | exact slices_Equal_int_int.mono _ _ _
   | exact slices_Index_bool_bool.mono _ _ _
   | exact LeO.none _
   | refine LeO.ite ?_ ?_
   | refine LeO.bind ?_ (fun _=>?_)
  ·intro y0 y1 y2 y3 y4 y5 y6 y7 y8 y9 y10 y11 y12 y13 y14 y15
   unfold least_parts.l4
   repeat' first
   | (with_reducible exact ih0 _ _ _ _ _ _ _ _ _)
   | (with_reducible exact ih1 _ _ _ _ _ _)
   | (with_reducible exact ih2 _ _ _ _ _ _ _ _ _)
   | (with_reducible exact ih3 _ _ _ _ _ _ _ _ _ _ _ _)
   | (with_reducible exact ih4 _ _ _ _ _ _ _ _ _ _ _ _ _ _ _ _)
   | (with_reducible exact slices_Equal_int_int.mono _ _ _)
   | (with_reducible exact slices_Index_bool_bool.mono _ _ _)
   | (with_reducible exact LeO.refl _)
   | (with_reducible exact LeO.none _)
   | (with_reducible refine LeO.ite ?_ ?_)
   | (with_reducible refine LeO.bind ?_ (fun _=>?_))
   | exact ih0 _ _ _ _ _ _ _ _ _
   | exact ih1 _ _ _ _ _ _
   | exact ih2 _ _ _ _ _ _ _ _ _
   | exact ih3 _ _ _ _ _ _ _ _ _ _ _ _
   | exact ih4 _ _ _ _ _ _ _ _ _ _ _ _ _ _ _ _
   | exact slices_Equal_int_int.mono _ _ _
   | exact slices_Index_bool_bool.mono _ _ _
   | exact LeO.none _
   | refine LeO.ite ?_ ?_
   | refine LeO.bind ?_ (fun _=>?_)
theorem least_parts.mono : ∀ a0 a1 a2 a3 a4 a5 k,LeO (least_parts.f k a0 a1 a2 a3 a4 a5) (least_parts.f (k + 1) a0 a1 a2 a3 a4 a5):=by
 intro a0 a1 a2 a3 a4 a5 k
 obtain ⟨ih0,ih1,ih2,ih3,ih4⟩:=least_parts.mono_l k
 unfold least_parts.f
 repeat' first
   | (with_reducible exact ih0 _ _ _ _ _ _ _ _ _)
   | (with_reducible exact ih1 _ _ _ _ _ _)
   | (with_reducible exact ih2 _ _ _ _ _ _ _ _ _)
   | (with_reducible exact ih3 _ _ _ _ _ _ _ _ _ _ _ _)
   | (with_reducible exact ih4 _ _ _ _ _ _ _ _ _ _ _ _ _ _ _ _)
   | (with_reducible exact slices_Equal_int_int.mono _ _ _)
   | (with_reducible exact slices_Index_bool_bool.mono _ _ _)
   | (with_reducible exact LeO.refl _)
   | (with_reducible exact LeO.none _)
   | (with_reducible refine LeO.ite ?_ ?_)
   | (with_reducible refine LeO.bind ?_ (fun _=>?_))
   | exact ih0 _ _ _ _ _ _ _ _ _
   | exact ih1 _ _ _ _ _ _
   | exact ih2 _ _ _ _ _ _ _ _ _
   | exact ih3 _ _ _ _ _ _ _ _ _ _ _ _
   | exact ih4 _ _ _ _ _ _ _ _ _ _ _ _ _ _ _ _
   | exact slices_Equal_int_int.mono _ _ _
   | exact slices_Index_bool_bool.mono _ _ _
   | exact LeO.none _
   | refine LeO.ite ?_ ?_
   | refine LeO.bind ?_ (fun _=>?_)
set_option maxHeartbeats 8000000 in
set_option maxRecDepth 100000 in
theorem least_parts.calls (k : Nat) (a0_0 : Int) (a0_1 : Int) (A0_2 : Option Addr) (c0_2 : Nat) (l0_2 : List (List Int)) (a0_3 : Int) (a0_4 : Int) (A1 : Option Addr) (c1 : Nat) (l1 : List Bool) (r : List Int) (w : World) (hr0_2 : Kd.C (Kd.slice 3 (Kd.int .i64)) w A0_2 l0_2.length l0_2) (hc0_2 : l0_2.length ≤ c0_2) (hr1 : Kd.C Kd.bool w A1 l1.length l1) (hc1 : l1.length ≤ c1) (h : least_parts.f k a0_0 a0_1 l0_2 a0_3 a0_4 l1 = some r) :
  Calls Try.prog 139 #[.agg #[.int .i64 a0_0,.int .i64 a0_1,.slice A0_2 l0_2.length c0_2,.int .i64 a0_3,.int .u32 a0_4],.slice A1 l1.length c1] w fun e w'=>∃ v0_ : Value,e = .returned (v0_) ∧ Kd.R (Kd.int .i64) 3 w' w.heap.size (fun _=>True) v0_ r ∧ Below w.heap.size w w':=by
 have hu63:=Try.underlying63
 have HR0_2:=Aside0.mk hr0_2
 have HC0_2:=Aside0.mk hc0_2
 clear hr0_2 hc0_2
 have HR1:=Aside0.mk hr1
 have HC1:=Aside0.mk hc1
 clear hr1 hc1
 have HB:=Aside0.mk (Below.refl w.heap.size w)
 have H : (if 0 ≤ a0_0 then (if (a0_0 : Int).toNat ≤ 35184372088832 then ((some (List.replicate (a0_0 : Int).toNat 0 : List Int)).bind fun y146=>(least_parts.l0 k l1 y146 (y146.length : Int) 0 a0_0 a0_1 l0_2 a0_3 a0_4)) else (none)) else (none)) = some r:=h
 clear h
 by_cases c3 : 0 ≤ a0_0
 ·rw [if_pos c3] at H
  have c3b0:=eq_true c3
  have c3b1 : decide (0 ≤ a0_0) = true:=decide_eq_true c3
  clear c3
  by_cases c4 : (a0_0 : Int).toNat ≤ 35184372088832
  ·rw [if_pos c4] at H
   have c4b0:=eq_true c4
   have c4b1 : decide ((a0_0 : Int).toNat ≤ 35184372088832) = true:=decide_eq_true c4
   clear c4
   obtain ⟨y146,hy146⟩ : ∃ y_ : List Int,y_ = (List.replicate (a0_0 : Int).toNat 0):=⟨_,rfl⟩
   replace H : (least_parts.l0 k l1 y146 (y146.length : Int) 0 a0_0 a0_1 l0_2 a0_3 a0_4) = some r:=by first|(rw [hy146];with_reducible exact H)|(have H2_:=(Option.bind_some _ _).symm.trans H;rw [hy146];with_reducible exact H2_)|(have H2_:=(Option.bind_some _ _).symm.trans H;with_reducible exact H2_)|with_reducible exact H|(rw [hy146];exact H)|exact H
   have Ny146:=Aside0.mk hy146
   clear hy146
   have H':=Aside0.mk H
   clear H
   go_enter Try.func139,Try.ntmps139
   go_wp2_with (first|((with_reducible refine gate_dst (N:=2) rfl ?_);refine box_event ?hg (N:=2) ?hd (cs:=#[.int .i64 a0_0,.int .i64 a0_1,.slice A0_2 l0_2.length c0_2,.int .i64 a0_3,.int .u32 a0_4]) (t:=63) ?hr ?_;(case hd=>rfl);(case hg=>rfl);(case hr=>first|(go_simp;done)|(go_simp;rfl));intro gb145 hg w5 hbox hb;have n0_:=Aside0.mk (below_step (by repeat (first|(with_reducible first|exact HB.out|apply below_alloc|apply pw_below_drewN|apply below_drew1)|exact HB.out)) hb);have n1_:=Aside0.mk (hbox);have n2_:=Aside0.mk ((by rw [hg];exact (below_size (by repeat (first|(with_reducible first|exact HB.out|apply below_alloc|apply pw_below_drewN|apply below_drew1)|exact HB.out))) : w.heap.size ≤ gb145));have n3_:=Aside0.mk ((by rw [hg];exact (below_size (by repeat (first|(with_reducible first|exact HB.out|apply below_alloc|apply pw_below_drewN|apply below_drew1)|exact HB.out))) : w.heap.size ≤ gb145));clear HB;have HB:=n0_;have BK145:=n1_;have GW145:=n2_;have GE145:=n3_;clear n0_ n1_ n2_ n3_;clear hb hbox hg;have hcz6_0 : w5.cell? ⟨gb145,0,none⟩ = some (.int .i64 a0_0):=(blk_cell BK145.out 0).trans rfl;have hcz6_1 : w5.cell? ⟨gb145,1,none⟩ = some (.int .i64 a0_1):=(blk_cell BK145.out 1).trans rfl;have hcz6_2 : w5.cell? ⟨gb145,2,none⟩ = some (.slice A0_2 l0_2.length c0_2):=(blk_cell BK145.out 2).trans rfl;have hcz6_3 : w5.cell? ⟨gb145,3,none⟩ = some (.int .i64 a0_3):=(blk_cell BK145.out 3).trans rfl;have hcz6_4 : w5.cell? ⟨gb145,4,none⟩ = some (.int .u32 a0_4):=(blk_cell BK145.out 4).trans rfl;have hfz6_0:=blk_frozen BK145.out 0;have hfz6_1:=blk_frozen BK145.out 1;have hfz6_2:=blk_frozen BK145.out 2;have hfz6_3:=blk_frozen BK145.out 3;have hfz6_4:=blk_frozen BK145.out 4)|((with_reducible refine gate_dst (N:=14) rfl ?_);refine Kd.R_make (Kd.int .i64) _ 3 rfl (N:=14) rfl 23 _ _ rfl a0_0 rfl rfl Try.underlying23 (.int .i64 0) 8 info3 rfl (by decide) (by omega) 0 (ok:=fun _=>True) (okp:=fun _=>True) rfl (fun _ hk=>hk) trivial (of_decide_eq_true (by first|(with_reducible assumption)|assumption)) (Nat.le_trans (Nat.mul_le_mul_right _ (of_decide_eq_true (by first|(with_reducible assumption)|assumption) : a0_0.toNat ≤ 35184372088832)) (by omega)) (Below.refl _ _) (Nat.le_refl _) ?_;intro v147 w7 ho8 hb hg_ hnew_;clear hg_ hnew_;(first|rw [← Ny146.out] at ho8|(simp only [Int.reduceToNat] at ho8;rw [← Ny146.out] at ho8));have n0_:=Aside0.mk (Kd.R_lower ho8 (below_size (by repeat (first|(with_reducible first|exact HB.out|apply below_alloc|apply pw_below_drewN|apply below_drew1|refine below_set ?_ GE145.out)|exact HB.out))));have n1_:=Aside0.mk (blk_below (g:=gb145) (o:=.cells #[.int .i64 a0_0,.int .i64 a0_1,.slice A0_2 l0_2.length c0_2,.int .i64 a0_3,.int .u32 a0_4] 63 (0,0)) (by (with_reducible repeat (first|refine blk_drewN ?_ _|refine blk_drew ?_|refine blk_alloc ?_ _));exact BK145.out) hb);have n2_:=Aside0.mk (below_step (by repeat (first|(with_reducible first|exact HB.out|apply below_alloc|apply pw_below_drewN|apply below_drew1|refine below_set ?_ GE145.out)|exact HB.out)) hb);clear BK145;clear HB;have HO148:=n0_;have BK145:=n1_;have HB:=n2_;clear n0_ n1_ n2_;clear hb ho8;obtain ⟨Ao9,co9,eo9⟩:=Kd.R_slice HO148.out;subst eo9))
   repeat (go_quiet (first|((with_reducible refine gate_dst (N:=2) rfl ?_);refine box_event ?hg (N:=2) ?hd (cs:=#[.int .i64 a0_0,.int .i64 a0_1,.slice A0_2 l0_2.length c0_2,.int .i64 a0_3,.int .u32 a0_4]) (t:=63) ?hr ?_;(case hd=>rfl);(case hg=>rfl);(case hr=>first|(go_simp;done)|(go_simp;rfl));intro gb145 hg w5 hbox hb;have n0_:=Aside0.mk (below_step (by repeat (first|(with_reducible first|exact HB.out|apply below_alloc|apply pw_below_drewN|apply below_drew1)|exact HB.out)) hb);have n1_:=Aside0.mk (hbox);have n2_:=Aside0.mk ((by rw [hg];exact (below_size (by repeat (first|(with_reducible first|exact HB.out|apply below_alloc|apply pw_below_drewN|apply below_drew1)|exact HB.out))) : w.heap.size ≤ gb145));have n3_:=Aside0.mk ((by rw [hg];exact (below_size (by repeat (first|(with_reducible first|exact HB.out|apply below_alloc|apply pw_below_drewN|apply below_drew1)|exact HB.out))) : w.heap.size ≤ gb145));clear HB;have HB:=n0_;have BK145:=n1_;have GW145:=n2_;have GE145:=n3_;clear n0_ n1_ n2_ n3_;clear hb hbox hg;have hcz6_0 : w5.cell? ⟨gb145,0,none⟩ = some (.int .i64 a0_0):=(blk_cell BK145.out 0).trans rfl;have hcz6_1 : w5.cell? ⟨gb145,1,none⟩ = some (.int .i64 a0_1):=(blk_cell BK145.out 1).trans rfl;have hcz6_2 : w5.cell? ⟨gb145,2,none⟩ = some (.slice A0_2 l0_2.length c0_2):=(blk_cell BK145.out 2).trans rfl;have hcz6_3 : w5.cell? ⟨gb145,3,none⟩ = some (.int .i64 a0_3):=(blk_cell BK145.out 3).trans rfl;have hcz6_4 : w5.cell? ⟨gb145,4,none⟩ = some (.int .u32 a0_4):=(blk_cell BK145.out 4).trans rfl;have hfz6_0:=blk_frozen BK145.out 0;have hfz6_1:=blk_frozen BK145.out 1;have hfz6_2:=blk_frozen BK145.out 2;have hfz6_3:=blk_frozen BK145.out 3;have hfz6_4:=blk_frozen BK145.out 4)|((with_reducible refine gate_dst (N:=14) rfl ?_);refine Kd.R_make (Kd.int .i64) _ 3 rfl (N:=14) rfl 23 _ _ rfl a0_0 rfl rfl Try.underlying23 (.int .i64 0) 8 info3 rfl (by decide) (by omega) 0 (ok:=fun _=>True) (okp:=fun _=>True) rfl (fun _ hk=>hk) trivial (of_decide_eq_true (by first|(with_reducible assumption)|assumption)) (Nat.le_trans (Nat.mul_le_mul_right _ (of_decide_eq_true (by first|(with_reducible assumption)|assumption) : a0_0.toNat ≤ 35184372088832)) (by omega)) (Below.refl _ _) (Nat.le_refl _) ?_;intro v147 w7 ho8 hb hg_ hnew_;clear hg_ hnew_;(first|rw [← Ny146.out] at ho8|(simp only [Int.reduceToNat] at ho8;rw [← Ny146.out] at ho8));have n0_:=Aside0.mk (Kd.R_lower ho8 (below_size (by repeat (first|(with_reducible first|exact HB.out|apply below_alloc|apply pw_below_drewN|apply below_drew1|refine below_set ?_ GE145.out)|exact HB.out))));have n1_:=Aside0.mk (blk_below (g:=gb145) (o:=.cells #[.int .i64 a0_0,.int .i64 a0_1,.slice A0_2 l0_2.length c0_2,.int .i64 a0_3,.int .u32 a0_4] 63 (0,0)) (by (with_reducible repeat (first|refine blk_drewN ?_ _|refine blk_drew ?_|refine blk_alloc ?_ _));exact BK145.out) hb);have n2_:=Aside0.mk (below_step (by repeat (first|(with_reducible first|exact HB.out|apply below_alloc|apply pw_below_drewN|apply below_drew1|refine below_set ?_ GE145.out)|exact HB.out)) hb);clear BK145;clear HB;have HO148:=n0_;have BK145:=n1_;have HB:=n2_;clear n0_ n1_ n2_;clear hb ho8;obtain ⟨Ao9,co9,eo9⟩:=Kd.R_slice HO148.out;subst eo9));try go_wp2_with (first|((with_reducible refine gate_dst (N:=2) rfl ?_);refine box_event ?hg (N:=2) ?hd (cs:=#[.int .i64 a0_0,.int .i64 a0_1,.slice A0_2 l0_2.length c0_2,.int .i64 a0_3,.int .u32 a0_4]) (t:=63) ?hr ?_;(case hd=>rfl);(case hg=>rfl);(case hr=>first|(go_simp;done)|(go_simp;rfl));intro gb145 hg w5 hbox hb;have n0_:=Aside0.mk (below_step (by repeat (first|(with_reducible first|exact HB.out|apply below_alloc|apply pw_below_drewN|apply below_drew1)|exact HB.out)) hb);have n1_:=Aside0.mk (hbox);have n2_:=Aside0.mk ((by rw [hg];exact (below_size (by repeat (first|(with_reducible first|exact HB.out|apply below_alloc|apply pw_below_drewN|apply below_drew1)|exact HB.out))) : w.heap.size ≤ gb145));have n3_:=Aside0.mk ((by rw [hg];exact (below_size (by repeat (first|(with_reducible first|exact HB.out|apply below_alloc|apply pw_below_drewN|apply below_drew1)|exact HB.out))) : w.heap.size ≤ gb145));clear HB;have HB:=n0_;have BK145:=n1_;have GW145:=n2_;have GE145:=n3_;clear n0_ n1_ n2_ n3_;clear hb hbox hg;have hcz6_0 : w5.cell? ⟨gb145,0,none⟩ = some (.int .i64 a0_0):=(blk_cell BK145.out 0).trans rfl;have hcz6_1 : w5.cell? ⟨gb145,1,none⟩ = some (.int .i64 a0_1):=(blk_cell BK145.out 1).trans rfl;have hcz6_2 : w5.cell? ⟨gb145,2,none⟩ = some (.slice A0_2 l0_2.length c0_2):=(blk_cell BK145.out 2).trans rfl;have hcz6_3 : w5.cell? ⟨gb145,3,none⟩ = some (.int .i64 a0_3):=(blk_cell BK145.out 3).trans rfl;have hcz6_4 : w5.cell? ⟨gb145,4,none⟩ = some (.int .u32 a0_4):=(blk_cell BK145.out 4).trans rfl;have hfz6_0:=blk_frozen BK145.out 0;have hfz6_1:=blk_frozen BK145.out 1;have hfz6_2:=blk_frozen BK145.out 2;have hfz6_3:=blk_frozen BK145.out 3;have hfz6_4:=blk_frozen BK145.out 4)|((with_reducible refine gate_dst (N:=14) rfl ?_);refine Kd.R_make (Kd.int .i64) _ 3 rfl (N:=14) rfl 23 _ _ rfl a0_0 rfl rfl Try.underlying23 (.int .i64 0) 8 info3 rfl (by decide) (by omega) 0 (ok:=fun _=>True) (okp:=fun _=>True) rfl (fun _ hk=>hk) trivial (of_decide_eq_true (by first|(with_reducible assumption)|assumption)) (Nat.le_trans (Nat.mul_le_mul_right _ (of_decide_eq_true (by first|(with_reducible assumption)|assumption) : a0_0.toNat ≤ 35184372088832)) (by omega)) (Below.refl _ _) (Nat.le_refl _) ?_;intro v147 w7 ho8 hb hg_ hnew_;clear hg_ hnew_;(first|rw [← Ny146.out] at ho8|(simp only [Int.reduceToNat] at ho8;rw [← Ny146.out] at ho8));have n0_:=Aside0.mk (Kd.R_lower ho8 (below_size (by repeat (first|(with_reducible first|exact HB.out|apply below_alloc|apply pw_below_drewN|apply below_drew1|refine below_set ?_ GE145.out)|exact HB.out))));have n1_:=Aside0.mk (blk_below (g:=gb145) (o:=.cells #[.int .i64 a0_0,.int .i64 a0_1,.slice A0_2 l0_2.length c0_2,.int .i64 a0_3,.int .u32 a0_4] 63 (0,0)) (by (with_reducible repeat (first|refine blk_drewN ?_ _|refine blk_drew ?_|refine blk_alloc ?_ _));exact BK145.out) hb);have n2_:=Aside0.mk (below_step (by repeat (first|(with_reducible first|exact HB.out|apply below_alloc|apply pw_below_drewN|apply below_drew1|refine below_set ?_ GE145.out)|exact HB.out)) hb);clear BK145;clear HB;have HO148:=n0_;have BK145:=n1_;have HB:=n2_;clear n0_ n1_ n2_;clear hb ho8;obtain ⟨Ao9,co9,eo9⟩:=Kd.R_slice HO148.out;subst eo9)))
   go_loopg [17] k (fun kq v17 w'=>∃ (x5_1 : List Int) (x17_1 : Int),v17 = .int .i64 x17_1 ∧ Aside0 (least_parts.l0 kq l1 x5_1 (y146.length : Int) x17_1 a0_0 a0_1 l0_2 a0_3 a0_4 = some r) ∧ Aside0 (kq ≤ k) ∧ Aside0 (Kd.R (Kd.int .i64) 3 w' w.heap.size (fun _=>True) (.slice Ao9 y146.length co9) x5_1) ∧ Aside0 (w'.heap[gb145]? = some (.cells #[.int .i64 a0_0,.int .i64 a0_1,(.slice A0_2 l0_2.length c0_2),.int .i64 a0_3,.int .u32 a0_4] 63 (0,0))) ∧ Aside0 (Below w.heap.size w w'))
   case atStart=>exact ⟨(y146),(0),(by first|rfl|(simp;done)|(simp [*];done)),H',⟨Nat.le_refl _⟩,⟨by (with_reducible repeat (first|apply Kd.R_alloc|apply Kd.R_drewN|apply Kd.R_drew));exact HO148.out⟩,⟨by (with_reducible repeat (first|refine blk_drewN ?_ _|refine blk_drew ?_|refine blk_alloc ?_ _));exact BK145.out⟩,⟨by repeat (first|(with_reducible first|exact HB.out|apply below_alloc|apply pw_below_drewN|apply below_drew1|refine below_set ?_ GE145.out)|exact HB.out)⟩⟩
   case round =>
    clear H'
    try clear c1
    try clear p2
    try clear c3
    try clear c3b0
    try clear c3b1
    try clear c4
    try clear c4b0
    try clear c4b1
    try clear hcz6_0
    try clear hcz6_1
    try clear hcz6_2
    try clear hcz6_3
    try clear hcz6_4
    try clear hfz6_0
    try clear hfz6_1
    try clear hfz6_2
    try clear hfz6_3
    try clear hfz6_4
    obtain ⟨x5_1,x17_1,rfl,HA,HK1,HO_5,BK145,HB⟩:=hrel
    have hl5_1:=(Kd.R_reads' HO_5.out).1
    rw [hl5_1] at HO_5
    (try simp only [hl5_1])
    (try simp only [hl5_1] at BK145)
    cases gk with
    | zero=>exact absurd HA.out (by simp [least_parts.l0])
    | succ k1 =>
     have H:=HA.out
     clear HA
     simp only [least_parts.l0] at H
     by_cases c10 : x17_1 < (y146.length : Int)
     ·rw [if_pos c10] at H
      have c10b0 : decide (x17_1 < (y146.length : Int)) = true:=decide_eq_true c10
      (try (have c10b0h:=c10b0;simp only [hl5_1] at c10b0h))
      clear c10
      by_cases c11 : 0 ≤ x17_1
      ·rw [if_pos c11] at H
       have c11b0 : decide (0 ≤ x17_1) = true:=decide_eq_true c11
       clear c11
       by_cases c12 : x17_1 < (l1.length : Int)
       ·rw [if_pos c12] at H
        have c12b0 : decide (x17_1 < (l1.length : Int)) = true:=decide_eq_true c12
        (try (have c12b0h:=c12b0;simp only [hl5_1] at c12b0h))
        clear c12
        replace H:=Option.bind_eq_some_iff.mp H
        obtain ⟨t150,A130,H⟩:=H
        replace H : (if x17_1 < (x5_1.length : Int) then (least_parts.l0 k1 l1 (x5_1.set (x17_1 : Int).toNat t150) (y146.length : Int) (wrap64 (x17_1 + 1)) a0_0 a0_1 l0_2 a0_3 a0_4) else (none)) = some r:=H
        have A13:=Aside0.mk A130
        clear A130
        by_cases c14 : x17_1 < (x5_1.length : Int)
        ·rw [if_pos c14] at H
         have c14b0 : decide (x17_1 < (x5_1.length : Int)) = true:=decide_eq_true c14
         (try (have c14b0h:=c14b0;simp only [hl5_1] at c14b0h))
         clear c14
         obtain ⟨y151,hy151⟩ : ∃ y_ : List Int,y_ = (x5_1.set (x17_1 : Int).toNat t150):=⟨_,rfl⟩
         replace H : (least_parts.l0 k1 l1 y151 (y146.length : Int) (wrap64 (x17_1 + 1)) a0_0 a0_1 l0_2 a0_3 a0_4) = some r:=by first|(rw [hy151];with_reducible exact H)|(have H2_:=(Option.bind_some _ _).symm.trans H;rw [hy151];with_reducible exact H2_)|(have H2_:=(Option.bind_some _ _).symm.trans H;with_reducible exact H2_)|with_reducible exact H|(rw [hy151];exact H)|exact H
         have Ny151:=Aside0.mk hy151
         clear hy151
         have H':=Aside0.mk H
         clear H
         have p149 : 0 ≤ (x17_1 : Int):=of_decide_eq_true (by first|(with_reducible assumption)|assumption)
         have q149 : x17_1 < (l1.length : Int):=of_decide_eq_true (by first|(with_reducible assumption)|assumption)
         obtain ⟨ad149,e149,hx149_0⟩:=Kd.at_bool HR1.out x17_1 p149 q149
         cases e149
         replace hx149_0:=(HB.out.cell (World.block_lt_of_cell? w _ hx149_0)).trans hx149_0
         replace p149:=eq_true p149
         replace q149:=eq_true q149
         go_wp2_with (first|(go_at_call 148;(with_reducible refine (slices_Index_bool_bool.calls k1 _ _ l1 (rdOf false l1 x17_1) t150 _ ?side1 ?side2 A13.out).mono ?_);(case side1=>repeat (first|exact (Kd.C_below HR1.out HB.out)|(with_reducible refine Kd.C_alloc ?_ _)|(with_reducible refine Kd.C_drewN ?_ _)|(with_reducible refine Kd.C_drew ?_)));(case side2=>exact HC1.out);rintro e w' ⟨rfl,⟨nd,rfl⟩⟩;(try first|exact ⟨rfl,_,World.drewN_drewN _ _ _⟩|exact ⟨rfl,_,Eq.trans (World.drewN_drewN _ _ _) (congrArg (World.drewN _) (Nat.add_assoc _ _ _))⟩);have p15 : 0 ≤ (x17_1 : Int):=of_decide_eq_true (by first|(with_reducible assumption)|assumption);have q15 : (x17_1 : Int) < ((x5_1.length : Int) : Int):=of_decide_eq_true (by first|(with_reducible assumption)|assumption);obtain ⟨go15,co15,eo15,gb15,gl15,cl15,HG15⟩:=Kd.R_form HO_5.out (by omega);(first|cases eo15|(injection eo15 with ea_ en_ ec_;(first|subst ea_|(injection ea_ with ea_;subst ea_));subst ec_;clear en_));have GB15:=Aside0.mk gb15;have GG15:=Aside0.mk HG15;clear gb15 gl15 HG15;obtain ⟨hx15_0,hf15_0⟩:=Kd.R_celln 0 HO_5.out (x17_1 : Int) p15 q15;replace p15:=eq_true p15;replace q15:=eq_true q15;obtain ⟨hy16_,hz16_⟩:=Kd.R_celln 0 HO_5.out (x17_1 : Int) (of_decide_eq_true (by first|(with_reducible assumption)|assumption)) (of_decide_eq_true (by first|(with_reducible assumption)|assumption));have HP16:=Kd.R_putg HO_5.out (x17_1 : Int) t150)|((with_reducible refine gate_store (t:=3) (p:=28) rfl ?_);(try (rw [drewN_self wr];generalize hq_ : World.drewN wr _ = wr;(try (have z_:=(congrArg (fun W_=>World.cell? W_ _) hq_).symm.trans hx149_0;clear hx149_0;have hx149_0:=z_;clear z_));have n0_:=Aside0.mk (Kd.R_at hq_ HO_5.out);have n1_:=Aside0.mk (blk_at hq_ BK145.out);have n2_:=Aside0.mk (below_at hq_ HB.out);clear hq_ HO_5 BK145 HB;have HO_5:=n0_;have BK145:=n1_;have HB:=n2_;clear n0_ n1_ n2_;(try (obtain ⟨hy16_,hz16_⟩:=Kd.R_celln 0 HO_5.out (x17_1 : Int) (of_decide_eq_true (by first|(with_reducible assumption)|assumption)) (of_decide_eq_true (by first|(with_reducible assumption)|assumption))));(try (have HP16:=Kd.R_putg HO_5.out (x17_1 : Int) t150))));refine store_event (t:=3) (p:=28) (v:=?vo_w17) (w1:=(wr.setCell ⟨go15,(x17_1 : Int).toNat,none⟩ (.int .i64 t150))) ?hg ?ho ?hn ?hr ?_;(case ho=>rfl);(case hg=>rfl);(case hn=>rfl);(case hr=>first|(go_simp;done)|(go_simp;rfl));intro w17 hw;have hg : wr.grownBy w17 (some go15):=(by rw [hw];exact HP16.2);have hp_ : Kd.R (Kd.int .i64) 3 w17 w.heap.size (fun _=>True) (.slice (some ⟨go15,0,none⟩) x5_1.length co9) y151:=(by rw [hw,Ny151.out];exact HP16.1);clear HP16;have n0_:=Aside0.mk (hp_);have n1_:=Aside0.mk (blk_grown (g:=gb145) (o:=.cells #[.int .i64 a0_0,.int .i64 a0_1,.slice A0_2 l0_2.length c0_2,.int .i64 a0_3,.int .u32 a0_4] 63 (0,0)) (by (with_reducible repeat (first|refine blk_drewN ?_ _|refine blk_drew ?_|refine blk_alloc ?_ _));exact BK145.out) hg (Kd.R_ne HO_5.out BK145.out (by decide)));have n2_:=Aside0.mk ((by rw [hw];exact below_set (HB.out) GB15.out : Below w.heap.size w w17));clear HO_5;clear BK145;clear HB;have HO_5:=n0_;have BK145:=n1_;have HB:=n2_;clear n0_ n1_ n2_;clear hg hw hp_))
         repeat (go_quiet (first|(go_at_call 148;(with_reducible refine (slices_Index_bool_bool.calls k1 _ _ l1 (rdOf false l1 x17_1) t150 _ ?side1 ?side2 A13.out).mono ?_);(case side1=>repeat (first|exact (Kd.C_below HR1.out HB.out)|(with_reducible refine Kd.C_alloc ?_ _)|(with_reducible refine Kd.C_drewN ?_ _)|(with_reducible refine Kd.C_drew ?_)));(case side2=>exact HC1.out);rintro e w' ⟨rfl,⟨nd,rfl⟩⟩;(try first|exact ⟨rfl,_,World.drewN_drewN _ _ _⟩|exact ⟨rfl,_,Eq.trans (World.drewN_drewN _ _ _) (congrArg (World.drewN _) (Nat.add_assoc _ _ _))⟩);have p15 : 0 ≤ (x17_1 : Int):=of_decide_eq_true (by first|(with_reducible assumption)|assumption);have q15 : (x17_1 : Int) < ((x5_1.length : Int) : Int):=of_decide_eq_true (by first|(with_reducible assumption)|assumption);obtain ⟨go15,co15,eo15,gb15,gl15,cl15,HG15⟩:=Kd.R_form HO_5.out (by omega);(first|cases eo15|(injection eo15 with ea_ en_ ec_;(first|subst ea_|(injection ea_ with ea_;subst ea_));subst ec_;clear en_));have GB15:=Aside0.mk gb15;have GG15:=Aside0.mk HG15;clear gb15 gl15 HG15;obtain ⟨hx15_0,hf15_0⟩:=Kd.R_celln 0 HO_5.out (x17_1 : Int) p15 q15;replace p15:=eq_true p15;replace q15:=eq_true q15;obtain ⟨hy16_,hz16_⟩:=Kd.R_celln 0 HO_5.out (x17_1 : Int) (of_decide_eq_true (by first|(with_reducible assumption)|assumption)) (of_decide_eq_true (by first|(with_reducible assumption)|assumption));have HP16:=Kd.R_putg HO_5.out (x17_1 : Int) t150)|((with_reducible refine gate_store (t:=3) (p:=28) rfl ?_);(try (rw [drewN_self wr];generalize hq_ : World.drewN wr _ = wr;(try (have z_:=(congrArg (fun W_=>World.cell? W_ _) hq_).symm.trans hx149_0;clear hx149_0;have hx149_0:=z_;clear z_));have n0_:=Aside0.mk (Kd.R_at hq_ HO_5.out);have n1_:=Aside0.mk (blk_at hq_ BK145.out);have n2_:=Aside0.mk (below_at hq_ HB.out);clear hq_ HO_5 BK145 HB;have HO_5:=n0_;have BK145:=n1_;have HB:=n2_;clear n0_ n1_ n2_;(try (obtain ⟨hy16_,hz16_⟩:=Kd.R_celln 0 HO_5.out (x17_1 : Int) (of_decide_eq_true (by first|(with_reducible assumption)|assumption)) (of_decide_eq_true (by first|(with_reducible assumption)|assumption))));(try (have HP16:=Kd.R_putg HO_5.out (x17_1 : Int) t150))));refine store_event (t:=3) (p:=28) (v:=?vo_w17) (w1:=(wr.setCell ⟨go15,(x17_1 : Int).toNat,none⟩ (.int .i64 t150))) ?hg ?ho ?hn ?hr ?_;(case ho=>rfl);(case hg=>rfl);(case hn=>rfl);(case hr=>first|(go_simp;done)|(go_simp;rfl));intro w17 hw;have hg : wr.grownBy w17 (some go15):=(by rw [hw];exact HP16.2);have hp_ : Kd.R (Kd.int .i64) 3 w17 w.heap.size (fun _=>True) (.slice (some ⟨go15,0,none⟩) x5_1.length co9) y151:=(by rw [hw,Ny151.out];exact HP16.1);clear HP16;have n0_:=Aside0.mk (hp_);have n1_:=Aside0.mk (blk_grown (g:=gb145) (o:=.cells #[.int .i64 a0_0,.int .i64 a0_1,.slice A0_2 l0_2.length c0_2,.int .i64 a0_3,.int .u32 a0_4] 63 (0,0)) (by (with_reducible repeat (first|refine blk_drewN ?_ _|refine blk_drew ?_|refine blk_alloc ?_ _));exact BK145.out) hg (Kd.R_ne HO_5.out BK145.out (by decide)));have n2_:=Aside0.mk ((by rw [hw];exact below_set (HB.out) GB15.out : Below w.heap.size w w17));clear HO_5;clear BK145;clear HB;have HO_5:=n0_;have BK145:=n1_;have HB:=n2_;clear n0_ n1_ n2_;clear hg hw hp_));try go_wp2_with (first|(go_at_call 148;(with_reducible refine (slices_Index_bool_bool.calls k1 _ _ l1 (rdOf false l1 x17_1) t150 _ ?side1 ?side2 A13.out).mono ?_);(case side1=>repeat (first|exact (Kd.C_below HR1.out HB.out)|(with_reducible refine Kd.C_alloc ?_ _)|(with_reducible refine Kd.C_drewN ?_ _)|(with_reducible refine Kd.C_drew ?_)));(case side2=>exact HC1.out);rintro e w' ⟨rfl,⟨nd,rfl⟩⟩;(try first|exact ⟨rfl,_,World.drewN_drewN _ _ _⟩|exact ⟨rfl,_,Eq.trans (World.drewN_drewN _ _ _) (congrArg (World.drewN _) (Nat.add_assoc _ _ _))⟩);have p15 : 0 ≤ (x17_1 : Int):=of_decide_eq_true (by first|(with_reducible assumption)|assumption);have q15 : (x17_1 : Int) < ((x5_1.length : Int) : Int):=of_decide_eq_true (by first|(with_reducible assumption)|assumption);obtain ⟨go15,co15,eo15,gb15,gl15,cl15,HG15⟩:=Kd.R_form HO_5.out (by omega);(first|cases eo15|(injection eo15 with ea_ en_ ec_;(first|subst ea_|(injection ea_ with ea_;subst ea_));subst ec_;clear en_));have GB15:=Aside0.mk gb15;have GG15:=Aside0.mk HG15;clear gb15 gl15 HG15;obtain ⟨hx15_0,hf15_0⟩:=Kd.R_celln 0 HO_5.out (x17_1 : Int) p15 q15;replace p15:=eq_true p15;replace q15:=eq_true q15;obtain ⟨hy16_,hz16_⟩:=Kd.R_celln 0 HO_5.out (x17_1 : Int) (of_decide_eq_true (by first|(with_reducible assumption)|assumption)) (of_decide_eq_true (by first|(with_reducible assumption)|assumption));have HP16:=Kd.R_putg HO_5.out (x17_1 : Int) t150)|((with_reducible refine gate_store (t:=3) (p:=28) rfl ?_);(try (rw [drewN_self wr];generalize hq_ : World.drewN wr _ = wr;(try (have z_:=(congrArg (fun W_=>World.cell? W_ _) hq_).symm.trans hx149_0;clear hx149_0;have hx149_0:=z_;clear z_));have n0_:=Aside0.mk (Kd.R_at hq_ HO_5.out);have n1_:=Aside0.mk (blk_at hq_ BK145.out);have n2_:=Aside0.mk (below_at hq_ HB.out);clear hq_ HO_5 BK145 HB;have HO_5:=n0_;have BK145:=n1_;have HB:=n2_;clear n0_ n1_ n2_;(try (obtain ⟨hy16_,hz16_⟩:=Kd.R_celln 0 HO_5.out (x17_1 : Int) (of_decide_eq_true (by first|(with_reducible assumption)|assumption)) (of_decide_eq_true (by first|(with_reducible assumption)|assumption))));(try (have HP16:=Kd.R_putg HO_5.out (x17_1 : Int) t150))));refine store_event (t:=3) (p:=28) (v:=?vo_w17) (w1:=(wr.setCell ⟨go15,(x17_1 : Int).toNat,none⟩ (.int .i64 t150))) ?hg ?ho ?hn ?hr ?_;(case ho=>rfl);(case hg=>rfl);(case hn=>rfl);(case hr=>first|(go_simp;done)|(go_simp;rfl));intro w17 hw;have hg : wr.grownBy w17 (some go15):=(by rw [hw];exact HP16.2);have hp_ : Kd.R (Kd.int .i64) 3 w17 w.heap.size (fun _=>True) (.slice (some ⟨go15,0,none⟩) x5_1.length co9) y151:=(by rw [hw,Ny151.out];exact HP16.1);clear HP16;have n0_:=Aside0.mk (hp_);have n1_:=Aside0.mk (blk_grown (g:=gb145) (o:=.cells #[.int .i64 a0_0,.int .i64 a0_1,.slice A0_2 l0_2.length c0_2,.int .i64 a0_3,.int .u32 a0_4] 63 (0,0)) (by (with_reducible repeat (first|refine blk_drewN ?_ _|refine blk_drew ?_|refine blk_alloc ?_ _));exact BK145.out) hg (Kd.R_ne HO_5.out BK145.out (by decide)));have n2_:=Aside0.mk ((by rw [hw];exact below_set (HB.out) GB15.out : Below w.heap.size w w17));clear HO_5;clear BK145;clear HB;have HO_5:=n0_;have BK145:=n1_;have HB:=n2_;clear n0_ n1_ n2_;clear hg hw hp_)))
         (try simp only [← hl5_1])
         go_roundg k1
         case measure=>have:=HK1.out;omega
         case rel=>exact ⟨(y151),(wrap64 (x17_1 + 1)),(by first|rfl|(simp;done)|(simp [*];done)),H',⟨by have:=HK1.out;omega⟩,⟨by (try simp only [hl5_1]);(with_reducible repeat (first|apply Kd.R_alloc|apply Kd.R_drewN|apply Kd.R_drew));exact HO_5.out⟩,⟨by (try simp only [hl5_1]);(with_reducible repeat (first|refine blk_drewN ?_ _|refine blk_drew ?_|refine blk_alloc ?_ _));exact BK145.out⟩,⟨by repeat (first|(with_reducible first|exact HB.out|apply below_alloc|apply pw_below_drewN|apply below_drew1|refine below_set ?_ GE145.out)|exact HB.out)⟩⟩
        ·rw [if_neg c14] at H
         exact absurd H (by simp)
       ·rw [if_neg c12] at H
        exact absurd H (by simp)
      ·rw [if_neg c11] at H
       exact absurd H (by simp)
     ·rw [if_neg c10] at H
      have c10b0 : decide (x17_1 < (y146.length : Int)) = false:=decide_eq_false c10
      (try (have c10b0h:=c10b0;simp only [hl5_1] at c10b0h))
      clear c10
      have H':=Aside0.mk H
      clear H
      go_wp2
      repeat (go_quiet (fail);try go_wp2)
      go_loopg [5] k1 (fun kq v5 w'=>∃ (x5_2 : List Int),Aside0 (least_parts.l1 kq x5_2 a0_0 a0_1 l0_2 a0_3 a0_4 = some r) ∧ Aside0 (kq ≤ k1) ∧ Aside0 (Kd.R (Kd.int .i64) 3 w' w.heap.size (fun _=>True) v5 x5_2) ∧ Aside0 (w'.heap[gb145]? = some (.cells #[.int .i64 a0_0,.int .i64 a0_1,(.slice A0_2 l0_2.length c0_2),.int .i64 a0_3,.int .u32 a0_4] 63 (0,0))) ∧ Aside0 (Below w.heap.size w w'))
      case atStart=>exact ⟨(x5_1),H',⟨Nat.le_refl _⟩,⟨by (try simp only [hl5_1]);(with_reducible repeat (first|apply Kd.R_alloc|apply Kd.R_drewN|apply Kd.R_drew));exact HO_5.out⟩,⟨by (try simp only [hl5_1]);(with_reducible repeat (first|refine blk_drewN ?_ _|refine blk_drew ?_|refine blk_alloc ?_ _));exact BK145.out⟩,⟨by repeat (first|(with_reducible first|exact HB.out|apply below_alloc|apply pw_below_drewN|apply below_drew1|refine below_set ?_ GE145.out)|exact HB.out)⟩⟩
      case round =>
       clear H'
       try clear c1
       try clear p1
       try clear q1
       try clear hx1
       try clear p2
       try clear c3
       try clear c3b0
       try clear c3b1
       try clear c4
       try clear c4b0
       try clear c4b1
       try clear p6
       try clear c10
       try clear c10b0
       try clear c11
       try clear c11b0
       try clear c12
       try clear c12b0
       try clear c13
       try clear c14
       try clear c14b0
       try clear p14
       try clear q14
       try clear hx14
       try clear p15
       try clear q15
       try clear hx15
       try clear hf15
       try clear hcz6_0
       try clear hcz6_1
       try clear hcz6_2
       try clear hcz6_3
       try clear hcz6_4
       try clear hfz6_0
       try clear hfz6_1
       try clear hfz6_2
       try clear hfz6_3
       try clear hfz6_4
       try clear hx149_0
       try clear hx15_0
       try clear p149
       try clear p15
       try clear p2
       try clear q149
       try clear q15
       obtain ⟨x5_2,HA,HK2,HO_5,BK145,HB⟩:=hrel
       cases gk with
       | zero=>exact absurd HA.out (by simp [least_parts.l1])
       | succ k2 =>
        have H:=HA.out
        clear HA
        simp only [least_parts.l1] at H
        by_cases c18 : 0 ≤ a0_0
        ·rw [if_pos c18] at H
         have c18b0:=eq_true c18
         have c18b1 : decide (0 ≤ a0_0) = true:=decide_eq_true c18
         clear c18
         by_cases c19 : (a0_0 : Int).toNat ≤ 35184372088832
         ·rw [if_pos c19] at H
          have c19b0:=eq_true c19
          have c19b1 : decide ((a0_0 : Int).toNat ≤ 35184372088832) = true:=decide_eq_true c19
          clear c19
          obtain ⟨y152,hy152⟩ : ∃ y_ : List Int,y_ = (List.replicate (a0_0 : Int).toNat 0):=⟨_,rfl⟩
          replace H : (least_parts.l2 k2 x5_2 y152 (y152.length : Int) 0 a0_0 a0_1 l0_2 a0_3 a0_4) = some r:=by first|(rw [hy152];with_reducible exact H)|(have H2_:=(Option.bind_some _ _).symm.trans H;rw [hy152];with_reducible exact H2_)|(have H2_:=(Option.bind_some _ _).symm.trans H;with_reducible exact H2_)|with_reducible exact H|(rw [hy152];exact H)|exact H
          have Ny152:=Aside0.mk hy152
          clear hy152
          have H':=Aside0.mk H
          clear H
          have hcz20_0 : wr.cell? ⟨gb145,0,none⟩ = some (.int .i64 a0_0):=(blk_cell BK145.out 0).trans rfl
          have hcz20_1 : wr.cell? ⟨gb145,1,none⟩ = some (.int .i64 a0_1):=(blk_cell BK145.out 1).trans rfl
          have hcz20_2 : wr.cell? ⟨gb145,2,none⟩ = some (.slice A0_2 l0_2.length c0_2):=(blk_cell BK145.out 2).trans rfl
          have hcz20_3 : wr.cell? ⟨gb145,3,none⟩ = some (.int .i64 a0_3):=(blk_cell BK145.out 3).trans rfl
          have hcz20_4 : wr.cell? ⟨gb145,4,none⟩ = some (.int .u32 a0_4):=(blk_cell BK145.out 4).trans rfl
          have hfz20_0:=blk_frozen BK145.out 0
          have hfz20_1:=blk_frozen BK145.out 1
          have hfz20_2:=blk_frozen BK145.out 2
          have hfz20_3:=blk_frozen BK145.out 3
          have hfz20_4:=blk_frozen BK145.out 4
          go_wp2_with (first|((with_reducible refine gate_dst (N:=32) rfl ?_);refine Kd.R_make (Kd.int .i64) _ 3 rfl (N:=32) rfl 23 _ _ rfl a0_0 rfl rfl Try.underlying23 (.int .i64 0) 8 info3 rfl (by decide) (by omega) 0 (ok:=fun _=>True) (okp:=fun _=>True) rfl (fun _ hk=>hk) trivial (of_decide_eq_true (by first|(with_reducible assumption)|assumption)) (Nat.le_trans (Nat.mul_le_mul_right _ (of_decide_eq_true (by first|(with_reducible assumption)|assumption) : a0_0.toNat ≤ 35184372088832)) (by omega)) (Below.refl _ _) (Nat.le_refl _) ?_;intro v153 w21 ho22 hb hg_ hnew_;clear hg_ hnew_;(first|rw [← Ny152.out] at ho22|(simp only [Int.reduceToNat] at ho22;rw [← Ny152.out] at ho22));have n0_:=Aside0.mk (Kd.R_elder' (by (with_reducible repeat (first|apply Kd.R_alloc|apply Kd.R_drewN|apply Kd.R_drew));exact HO_5.out) (Kd.R_base ho22) hb);have n1_:=Aside0.mk (Kd.R_lower (Kd.R_new' ho22 (Kd.R_lt (by (with_reducible repeat (first|apply Kd.R_alloc|apply Kd.R_drewN|apply Kd.R_drew));exact HO_5.out))) (below_size (by repeat (first|(with_reducible first|exact HB.out|apply below_alloc|apply pw_below_drewN|apply below_drew1|refine below_set ?_ GE145.out)|exact HB.out))));have n2_:=Aside0.mk (blk_below (g:=gb145) (o:=.cells #[.int .i64 a0_0,.int .i64 a0_1,.slice A0_2 l0_2.length c0_2,.int .i64 a0_3,.int .u32 a0_4] 63 (0,0)) (by (with_reducible repeat (first|refine blk_drewN ?_ _|refine blk_drew ?_|refine blk_alloc ?_ _));exact BK145.out) hb);have n3_:=Aside0.mk (below_step (by repeat (first|(with_reducible first|exact HB.out|apply below_alloc|apply pw_below_drewN|apply below_drew1|refine below_set ?_ GE145.out)|exact HB.out)) hb);clear HO_5;clear BK145;clear HB;have HO_5:=n0_;have HO154:=n1_;have BK145:=n2_;have HB:=n3_;clear n0_ n1_ n2_ n3_;clear hb ho22;obtain ⟨Ao23,co23,eo23⟩:=Kd.R_slice HO154.out;subst eo23))
          repeat (go_quiet (first|((with_reducible refine gate_dst (N:=32) rfl ?_);refine Kd.R_make (Kd.int .i64) _ 3 rfl (N:=32) rfl 23 _ _ rfl a0_0 rfl rfl Try.underlying23 (.int .i64 0) 8 info3 rfl (by decide) (by omega) 0 (ok:=fun _=>True) (okp:=fun _=>True) rfl (fun _ hk=>hk) trivial (of_decide_eq_true (by first|(with_reducible assumption)|assumption)) (Nat.le_trans (Nat.mul_le_mul_right _ (of_decide_eq_true (by first|(with_reducible assumption)|assumption) : a0_0.toNat ≤ 35184372088832)) (by omega)) (Below.refl _ _) (Nat.le_refl _) ?_;intro v153 w21 ho22 hb hg_ hnew_;clear hg_ hnew_;(first|rw [← Ny152.out] at ho22|(simp only [Int.reduceToNat] at ho22;rw [← Ny152.out] at ho22));have n0_:=Aside0.mk (Kd.R_elder' (by (with_reducible repeat (first|apply Kd.R_alloc|apply Kd.R_drewN|apply Kd.R_drew));exact HO_5.out) (Kd.R_base ho22) hb);have n1_:=Aside0.mk (Kd.R_lower (Kd.R_new' ho22 (Kd.R_lt (by (with_reducible repeat (first|apply Kd.R_alloc|apply Kd.R_drewN|apply Kd.R_drew));exact HO_5.out))) (below_size (by repeat (first|(with_reducible first|exact HB.out|apply below_alloc|apply pw_below_drewN|apply below_drew1|refine below_set ?_ GE145.out)|exact HB.out))));have n2_:=Aside0.mk (blk_below (g:=gb145) (o:=.cells #[.int .i64 a0_0,.int .i64 a0_1,.slice A0_2 l0_2.length c0_2,.int .i64 a0_3,.int .u32 a0_4] 63 (0,0)) (by (with_reducible repeat (first|refine blk_drewN ?_ _|refine blk_drew ?_|refine blk_alloc ?_ _));exact BK145.out) hb);have n3_:=Aside0.mk (below_step (by repeat (first|(with_reducible first|exact HB.out|apply below_alloc|apply pw_below_drewN|apply below_drew1|refine below_set ?_ GE145.out)|exact HB.out)) hb);clear HO_5;clear BK145;clear HB;have HO_5:=n0_;have HO154:=n1_;have BK145:=n2_;have HB:=n3_;clear n0_ n1_ n2_ n3_;clear hb ho22;obtain ⟨Ao23,co23,eo23⟩:=Kd.R_slice HO154.out;subst eo23));try go_wp2_with (first|((with_reducible refine gate_dst (N:=32) rfl ?_);refine Kd.R_make (Kd.int .i64) _ 3 rfl (N:=32) rfl 23 _ _ rfl a0_0 rfl rfl Try.underlying23 (.int .i64 0) 8 info3 rfl (by decide) (by omega) 0 (ok:=fun _=>True) (okp:=fun _=>True) rfl (fun _ hk=>hk) trivial (of_decide_eq_true (by first|(with_reducible assumption)|assumption)) (Nat.le_trans (Nat.mul_le_mul_right _ (of_decide_eq_true (by first|(with_reducible assumption)|assumption) : a0_0.toNat ≤ 35184372088832)) (by omega)) (Below.refl _ _) (Nat.le_refl _) ?_;intro v153 w21 ho22 hb hg_ hnew_;clear hg_ hnew_;(first|rw [← Ny152.out] at ho22|(simp only [Int.reduceToNat] at ho22;rw [← Ny152.out] at ho22));have n0_:=Aside0.mk (Kd.R_elder' (by (with_reducible repeat (first|apply Kd.R_alloc|apply Kd.R_drewN|apply Kd.R_drew));exact HO_5.out) (Kd.R_base ho22) hb);have n1_:=Aside0.mk (Kd.R_lower (Kd.R_new' ho22 (Kd.R_lt (by (with_reducible repeat (first|apply Kd.R_alloc|apply Kd.R_drewN|apply Kd.R_drew));exact HO_5.out))) (below_size (by repeat (first|(with_reducible first|exact HB.out|apply below_alloc|apply pw_below_drewN|apply below_drew1|refine below_set ?_ GE145.out)|exact HB.out))));have n2_:=Aside0.mk (blk_below (g:=gb145) (o:=.cells #[.int .i64 a0_0,.int .i64 a0_1,.slice A0_2 l0_2.length c0_2,.int .i64 a0_3,.int .u32 a0_4] 63 (0,0)) (by (with_reducible repeat (first|refine blk_drewN ?_ _|refine blk_drew ?_|refine blk_alloc ?_ _));exact BK145.out) hb);have n3_:=Aside0.mk (below_step (by repeat (first|(with_reducible first|exact HB.out|apply below_alloc|apply pw_below_drewN|apply below_drew1|refine below_set ?_ GE145.out)|exact HB.out)) hb);clear HO_5;clear BK145;clear HB;have HO_5:=n0_;have HO154:=n1_;have BK145:=n2_;have HB:=n3_;clear n0_ n1_ n2_ n3_;clear hb ho22;obtain ⟨Ao23,co23,eo23⟩:=Kd.R_slice HO154.out;subst eo23)))
          go_loopg [35] k2 (fun kq v35 w'=>∃ (x7_3 : List Int) (x35_3 : Int),v35 = .int .i64 x35_3 ∧ Aside0 (least_parts.l2 kq x5_2 x7_3 (y152.length : Int) x35_3 a0_0 a0_1 l0_2 a0_3 a0_4 = some r) ∧ Aside0 (kq ≤ k2) ∧ Aside0 (Kd.R (Kd.int .i64) 3 w' w.heap.size (fun k_=>some k_ ≠ ((.slice Ao23 y152.length co23) : Value).ownBlock) u5 x5_2) ∧ Aside0 (Kd.R (Kd.int .i64) 3 w' w.heap.size (fun k_=>some k_ ≠ (u5 : Value).ownBlock) (.slice Ao23 y152.length co23) x7_3) ∧ Aside0 (w'.heap[gb145]? = some (.cells #[.int .i64 a0_0,.int .i64 a0_1,(.slice A0_2 l0_2.length c0_2),.int .i64 a0_3,.int .u32 a0_4] 63 (0,0))) ∧ Aside0 (Below w.heap.size w w'))
          case atStart=>exact ⟨(y152),(0),(by first|rfl|(simp;done)|(simp [*];done)),H',⟨Nat.le_refl _⟩,⟨by (try simp only [hl5_1]);(with_reducible repeat (first|apply Kd.R_alloc|apply Kd.R_drewN|apply Kd.R_drew));exact Kd.R_mono HO_5.out (fun _ hk=>hk.2)⟩,⟨by (try simp only [hl5_1]);(with_reducible repeat (first|apply Kd.R_alloc|apply Kd.R_drewN|apply Kd.R_drew));exact Kd.R_mono HO154.out (fun _ hk=>hk.2)⟩,⟨by (try simp only [hl5_1]);(with_reducible repeat (first|refine blk_drewN ?_ _|refine blk_drew ?_|refine blk_alloc ?_ _));exact BK145.out⟩,⟨by repeat (first|(with_reducible first|exact HB.out|apply below_alloc|apply pw_below_drewN|apply below_drew1|refine below_set ?_ GE145.out)|exact HB.out)⟩⟩
          case round =>
           clear H'
           try clear c1
           try clear p1
           try clear q1
           try clear hx1
           try clear p2
           try clear c3
           try clear c3b0
           try clear c3b1
           try clear c4
           try clear c4b0
           try clear c4b1
           try clear p6
           try clear c10
           try clear c10b0
           try clear c11
           try clear c11b0
           try clear c12
           try clear c12b0
           try clear c13
           try clear c14
           try clear c14b0
           try clear p14
           try clear q14
           try clear hx14
           try clear p15
           try clear q15
           try clear hx15
           try clear hf15
           try clear c18
           try clear c18b0
           try clear c18b1
           try clear c19
           try clear c19b0
           try clear c19b1
           try clear hcz20_0
           try clear hcz20_1
           try clear hcz20_2
           try clear hcz20_3
           try clear hcz20_4
           try clear hcz6_0
           try clear hcz6_1
           try clear hcz6_2
           try clear hcz6_3
           try clear hcz6_4
           try clear hfz20_0
           try clear hfz20_1
           try clear hfz20_2
           try clear hfz20_3
           try clear hfz20_4
           try clear hfz6_0
           try clear hfz6_1
           try clear hfz6_2
           try clear hfz6_3
           try clear hfz6_4
           try clear hx149_0
           try clear hx15_0
           try clear p1
           try clear p14
           try clear p149
           try clear p15
           try clear p2
           try clear p6
           try clear q1
           try clear q14
           try clear q149
           try clear q15
           obtain ⟨x7_3,x35_3,rfl,HA,HK3,HO_5,HO_7,BK145,HB⟩:=hrel
           have hl7_3:=(Kd.R_reads' HO_7.out).1
           rw [hl7_3] at HO_7
           (try simp only [hl7_3])
           (try simp only [hl7_3] at BK145)
           (try simp only [hl7_3] at HO_5)
           cases gk with
           | zero=>exact absurd HA.out (by simp [least_parts.l2])
           | succ k3 =>
            have H:=HA.out
            clear HA
            simp only [least_parts.l2] at H
            by_cases c24 : x35_3 < (y152.length : Int)
            ·rw [if_pos c24] at H
             have c24b0 : decide (x35_3 < (y152.length : Int)) = true:=decide_eq_true c24
             (try (have c24b0h:=c24b0;simp only [hl5_1,hl7_3] at c24b0h))
             clear c24
             have H':=Aside0.mk H
             clear H
             go_wp2
             repeat (go_quiet (fail);try go_wp2)
             go_loopg [40] k3 (fun kq v40 w'=>∃ (x7_4 : List Int) (x40_4 : Int),v40 = .int .i64 x40_4 ∧ Aside0 (least_parts.l3 kq x5_2 x7_4 x35_3 (y152.length : Int) x35_3 (wrap64 (x35_3 + 1)) x40_4 a0_0 a0_1 l0_2 a0_3 a0_4 = some r) ∧ Aside0 (kq ≤ k3) ∧ Aside0 (Kd.R (Kd.int .i64) 3 w' w.heap.size (fun k_=>some k_ ≠ ((.slice Ao23 x7_3.length co23) : Value).ownBlock) u5 x5_2) ∧ Aside0 (Kd.R (Kd.int .i64) 3 w' w.heap.size (fun k_=>some k_ ≠ (u5 : Value).ownBlock) (.slice Ao23 x7_3.length co23) x7_4) ∧ Aside0 (w'.heap[gb145]? = some (.cells #[.int .i64 a0_0,.int .i64 a0_1,(.slice A0_2 l0_2.length c0_2),.int .i64 a0_3,.int .u32 a0_4] 63 (0,0))) ∧ Aside0 (Below w.heap.size w w'))
             case atStart=>exact ⟨(x7_3),(0),(by first|rfl|(simp;done)|(simp [*];done)),H',⟨Nat.le_refl _⟩,⟨by (try simp only [hl5_1]);(try simp only [hl7_3]);(with_reducible repeat (first|apply Kd.R_alloc|apply Kd.R_drewN|apply Kd.R_drew));exact HO_5.out⟩,⟨by (try simp only [hl5_1]);(try simp only [hl7_3]);(with_reducible repeat (first|apply Kd.R_alloc|apply Kd.R_drewN|apply Kd.R_drew));exact HO_7.out⟩,⟨by (try simp only [hl5_1]);(try simp only [hl7_3]);(with_reducible repeat (first|refine blk_drewN ?_ _|refine blk_drew ?_|refine blk_alloc ?_ _));exact BK145.out⟩,⟨by repeat (first|(with_reducible first|exact HB.out|apply below_alloc|apply pw_below_drewN|apply below_drew1|refine below_set ?_ GE145.out)|exact HB.out)⟩⟩
             case round =>
              clear H'
              try clear c1
              try clear p1
              try clear q1
              try clear hx1
              try clear c2
              try clear p2
              try clear c3
              try clear c3b0
              try clear c3b1
              try clear c4
              try clear c4b0
              try clear c4b1
              try clear p6
              try clear c10
              try clear c10b0
              try clear c11
              try clear c11b0
              try clear c12
              try clear c12b0
              try clear c13
              try clear c14
              try clear c14b0
              try clear p14
              try clear q14
              try clear hx14
              try clear p15
              try clear q15
              try clear hx15
              try clear hf15
              try clear c18
              try clear c18b0
              try clear c18b1
              try clear c19
              try clear c19b0
              try clear c19b1
              try clear c24
              try clear c24b0
              try clear hcz20_0
              try clear hcz20_1
              try clear hcz20_2
              try clear hcz20_3
              try clear hcz20_4
              try clear hcz6_0
              try clear hcz6_1
              try clear hcz6_2
              try clear hcz6_3
              try clear hcz6_4
              try clear hfz20_0
              try clear hfz20_1
              try clear hfz20_2
              try clear hfz20_3
              try clear hfz20_4
              try clear hfz6_0
              try clear hfz6_1
              try clear hfz6_2
              try clear hfz6_3
              try clear hfz6_4
              try clear hx149_0
              try clear hx15_0
              try clear p1
              try clear p14
              try clear p149
              try clear p15
              try clear p2
              try clear p6
              try clear q1
              try clear q14
              try clear q149
              try clear q15
              obtain ⟨x7_4,x40_4,rfl,HA,HK4,HO_5,HO_7,BK145,HB⟩:=hrel
              have hl7_4:=(Kd.R_reads' HO_7.out).1
              rw [hl7_4] at HO_7
              (try simp only [hl7_4])
              (try simp only [hl7_4] at BK145)
              (try simp only [hl7_4] at HO_5)
              cases gk with
              | zero=>exact absurd HA.out (by simp [least_parts.l3])
              | succ k4 =>
               have H:=HA.out
               clear HA
               simp only [least_parts.l3] at H
               by_cases c25 : x40_4 < (wrap64 (x35_3 + 1))
               ·rw [if_pos c25] at H
                have c25b0 : decide (x40_4 < (wrap64 (x35_3 + 1))) = true:=decide_eq_true c25
                clear c25
                by_cases c26 : 0 ≤ x35_3
                ·rw [if_pos c26] at H
                 have c26b0 : decide (0 ≤ x35_3) = true:=decide_eq_true c26
                 clear c26
                 by_cases c27 : x35_3 < (x5_2.length : Int)
                 ·rw [if_pos c27] at H
                  have c27b0 : decide (x35_3 < (x5_2.length : Int)) = true:=decide_eq_true c27
                  (try (have c27b0h:=c27b0;simp only [hl5_1,hl7_3,hl7_4] at c27b0h))
                  clear c27
                  by_cases c28 : 0 ≤ x40_4
                  ·rw [if_pos c28] at H
                   have c28b0 : decide (0 ≤ x40_4) = true:=decide_eq_true c28
                   clear c28
                   by_cases c29 : x40_4 < (x5_2.length : Int)
                   ·rw [if_pos c29] at H
                    have c29b0 : decide (x40_4 < (x5_2.length : Int)) = true:=decide_eq_true c29
                    (try (have c29b0h:=c29b0;simp only [hl5_1,hl7_3,hl7_4] at c29b0h))
                    clear c29
                    have H':=Aside0.mk H
                    clear H
                    obtain ⟨Ao30,co30,eo30⟩:=Kd.R_slice HO_5.out
                    subst eo30
                    have p156 : 0 ≤ (x35_3 : Int):=of_decide_eq_true (by first|(with_reducible assumption)|assumption)
                    have q156 : x35_3 < (x5_2.length : Int):=of_decide_eq_true (by first|(with_reducible assumption)|assumption)
                    obtain ⟨ad156,e156,hx156_0⟩:=Kd.at_int (Kd.R_reads' HO_5.out).2.2 x35_3 p156 q156
                    cases e156
                    replace p156:=eq_true p156
                    replace q156:=eq_true q156
                    have p157 : 0 ≤ (x40_4 : Int):=of_decide_eq_true (by first|(with_reducible assumption)|assumption)
                    have q157 : x40_4 < (x5_2.length : Int):=of_decide_eq_true (by first|(with_reducible assumption)|assumption)
                    obtain ⟨ad157,e157,hx157_0⟩:=Kd.at_int (Kd.R_reads' HO_5.out).2.2 x40_4 p157 q157
                    obtain rfl : ad156 = ad157:=(by injection e157)
                    replace p157:=eq_true p157
                    replace q157:=eq_true q157
                    have hcz31_0 : wr.cell? ⟨gb145,0,none⟩ = some (.int .i64 a0_0):=(blk_cell BK145.out 0).trans rfl
                    have hcz31_1 : wr.cell? ⟨gb145,1,none⟩ = some (.int .i64 a0_1):=(blk_cell BK145.out 1).trans rfl
                    have hcz31_2 : wr.cell? ⟨gb145,2,none⟩ = some (.slice A0_2 l0_2.length c0_2):=(blk_cell BK145.out 2).trans rfl
                    have hcz31_3 : wr.cell? ⟨gb145,3,none⟩ = some (.int .i64 a0_3):=(blk_cell BK145.out 3).trans rfl
                    have hcz31_4 : wr.cell? ⟨gb145,4,none⟩ = some (.int .u32 a0_4):=(blk_cell BK145.out 4).trans rfl
                    have hfz31_0:=blk_frozen BK145.out 0
                    have hfz31_1:=blk_frozen BK145.out 1
                    have hfz31_2:=blk_frozen BK145.out 2
                    have hfz31_3:=blk_frozen BK145.out 3
                    have hfz31_4:=blk_frozen BK145.out 4
                    go_wp2
                    repeat (go_quiet (fail);try go_wp2)
                    go_loopg [10,54] k4 (fun kq v10 v54 w'=>∃ (x10_5 : Bool) (x54_5 : Int),v10 = .bool x10_5 ∧ v54 = .int .i64 x54_5 ∧ Aside0 (least_parts.l4 kq x5_2 x7_4 x35_3 x40_4 x10_5 (y152.length : Int) x35_3 (wrap64 (x35_3 + 1)) x40_4 a0_1 x54_5 a0_0 a0_1 l0_2 a0_3 a0_4 = some r) ∧ Aside0 (kq ≤ k4) ∧ Aside0 (Kd.R (Kd.int .i64) 3 w' w.heap.size (fun k_=>some k_ ≠ ((.slice Ao23 x7_4.length co23) : Value).ownBlock) (.slice (some ad156) x5_2.length co30) x5_2) ∧ Aside0 (Kd.R (Kd.int .i64) 3 w' w.heap.size (fun k_=>some k_ ≠ ((.slice (some ad156) x5_2.length co30) : Value).ownBlock) (.slice Ao23 x7_4.length co23) x7_4) ∧ Aside0 (w'.heap[gb145]? = some (.cells #[.int .i64 a0_0,.int .i64 a0_1,(.slice A0_2 l0_2.length c0_2),.int .i64 a0_3,.int .u32 a0_4] 63 (0,0))) ∧ Aside0 (Below w.heap.size w w'))
                    case atStart=>exact ⟨(((rd x5_2 x35_3) == (rd x5_2 x40_4))),(0),(by first|rfl|(simp;done)|(simp [*];done)),(by first|rfl|(simp;done)|(simp [*];done)),H',⟨Nat.le_refl _⟩,⟨by (try simp only [hl5_1]);(try simp only [hl7_3]);(try simp only [hl7_4]);(with_reducible repeat (first|apply Kd.R_alloc|apply Kd.R_drewN|apply Kd.R_drew));exact HO_5.out⟩,⟨by (try simp only [hl5_1]);(try simp only [hl7_3]);(try simp only [hl7_4]);(with_reducible repeat (first|apply Kd.R_alloc|apply Kd.R_drewN|apply Kd.R_drew));exact HO_7.out⟩,⟨by (try simp only [hl5_1]);(try simp only [hl7_3]);(try simp only [hl7_4]);(with_reducible repeat (first|refine blk_drewN ?_ _|refine blk_drew ?_|refine blk_alloc ?_ _));exact BK145.out⟩,⟨by repeat (first|(with_reducible first|exact HB.out|apply below_alloc|apply pw_below_drewN|apply below_drew1|refine below_set ?_ GE145.out)|exact HB.out)⟩⟩
                    case round =>
                     clear H'
                     try clear c1
                     try clear p1
                     try clear q1
                     try clear hx1
                     try clear c2
                     try clear p2
                     try clear c3
                     try clear c3b0
                     try clear c3b1
                     try clear c4
                     try clear c4b0
                     try clear c4b1
                     try clear p6
                     try clear c10
                     try clear c10b0
                     try clear c11
                     try clear c11b0
                     try clear c12
                     try clear c12b0
                     try clear c13
                     try clear c14
                     try clear c14b0
                     try clear p14
                     try clear q14
                     try clear hx14
                     try clear p15
                     try clear q15
                     try clear hx15
                     try clear hf15
                     try clear c18
                     try clear c18b0
                     try clear c18b1
                     try clear c19
                     try clear c19b0
                     try clear c19b1
                     try clear c24
                     try clear c24b0
                     try clear c25
                     try clear c25b0
                     try clear c26
                     try clear c26b0
                     try clear c27
                     try clear c27b0
                     try clear c28
                     try clear c28b0
                     try clear c29
                     try clear c29b0
                     try clear hcz20_0
                     try clear hcz20_1
                     try clear hcz20_2
                     try clear hcz20_3
                     try clear hcz20_4
                     try clear hcz31_0
                     try clear hcz31_1
                     try clear hcz31_2
                     try clear hcz31_3
                     try clear hcz31_4
                     try clear hcz6_0
                     try clear hcz6_1
                     try clear hcz6_2
                     try clear hcz6_3
                     try clear hcz6_4
                     try clear hfz20_0
                     try clear hfz20_1
                     try clear hfz20_2
                     try clear hfz20_3
                     try clear hfz20_4
                     try clear hfz31_0
                     try clear hfz31_1
                     try clear hfz31_2
                     try clear hfz31_3
                     try clear hfz31_4
                     try clear hfz6_0
                     try clear hfz6_1
                     try clear hfz6_2
                     try clear hfz6_3
                     try clear hfz6_4
                     try clear hx149_0
                     try clear hx156_0
                     try clear hx157_0
                     try clear hx15_0
                     try clear p1
                     try clear p14
                     try clear p149
                     try clear p15
                     try clear p156
                     try clear p157
                     try clear p2
                     try clear p6
                     try clear q1
                     try clear q14
                     try clear q149
                     try clear q15
                     try clear q156
                     try clear q157
                     obtain ⟨x10_5,x54_5,rfl,rfl,HA,HK5,HO_5,HO_7,BK145,HB⟩:=hrel
                     cases gk with
                     | zero=>exact absurd HA.out (by simp [least_parts.l4])
                     | succ k5 =>
                      have H:=HA.out
                      clear HA
                      simp only [least_parts.l4] at H
                      by_cases c32 : x54_5 < a0_1
                      ·rw [if_pos c32] at H
                       have c32b0 : decide (x54_5 < a0_1) = true:=decide_eq_true c32
                       clear c32
                       by_cases c33 : x10_5 = true
                       ·subst c33
                        have H1 : (if 0 ≤ x35_3 then (if x35_3 < (l0_2.length : Int) then (if 0 ≤ x54_5 then (if x54_5 < ((rd_L1 l0_2 x35_3).length : Int) then (if 0 ≤ (rd (rd_L1 l0_2 x35_3) x54_5) then (if (rd (rd_L1 l0_2 x35_3) x54_5) < (x5_2.length : Int) then (if 0 ≤ x40_4 then (if x40_4 < (l0_2.length : Int) then (if x54_5 < ((rd_L1 l0_2 x40_4).length : Int) then (if 0 ≤ (rd (rd_L1 l0_2 x40_4) x54_5) then (if (rd (rd_L1 l0_2 x40_4) x54_5) < (x5_2.length : Int) then (least_parts.l4 k5 x5_2 x7_4 x35_3 x40_4 ((rd x5_2 (rd (rd_L1 l0_2 x35_3) x54_5)) == (rd x5_2 (rd (rd_L1 l0_2 x40_4) x54_5))) (y152.length : Int) x35_3 (wrap64 (x35_3 + 1)) x40_4 a0_1 (wrap64 (x54_5 + 1)) a0_0 a0_1 l0_2 a0_3 a0_4) else (none)) else (none)) else (none)) else (none)) else (none)) else (none)) else (none)) else (none)) else (none)) else (none)) else (none)) = some r:=by rw [if_pos rfl] at H;exact H
                        clear H
                        have H:=H1
                        clear H1
                        by_cases c34 : 0 ≤ x35_3
                        ·rw [if_pos c34] at H
                         have c34b0 : decide (0 ≤ x35_3) = true:=decide_eq_true c34
                         clear c34
                         by_cases c35 : x35_3 < (l0_2.length : Int)
                         ·rw [if_pos c35] at H
                          have c35b0 : decide (x35_3 < (l0_2.length : Int)) = true:=decide_eq_true c35
                          (try (have c35b0h:=c35b0;simp only [hl5_1,hl7_3,hl7_4] at c35b0h))
                          clear c35
                          by_cases c36 : 0 ≤ x54_5
                          ·rw [if_pos c36] at H
                           have c36b0 : decide (0 ≤ x54_5) = true:=decide_eq_true c36
                           clear c36
                           by_cases c37 : x54_5 < ((rd_L1 l0_2 x35_3).length : Int)
                           ·rw [if_pos c37] at H
                            have c37b0 : decide (x54_5 < ((rd_L1 l0_2 x35_3).length : Int)) = true:=decide_eq_true c37
                            (try (have c37b0h:=c37b0;simp only [hl5_1,hl7_3,hl7_4] at c37b0h))
                            clear c37
                            by_cases c38 : 0 ≤ (rd (rd_L1 l0_2 x35_3) x54_5)
                            ·rw [if_pos c38] at H
                             have c38b0 : decide (0 ≤ (rd (rd_L1 l0_2 x35_3) x54_5)) = true:=decide_eq_true c38
                             clear c38
                             by_cases c39 : (rd (rd_L1 l0_2 x35_3) x54_5) < (x5_2.length : Int)
                             ·rw [if_pos c39] at H
                              have c39b0 : decide ((rd (rd_L1 l0_2 x35_3) x54_5) < (x5_2.length : Int)) = true:=decide_eq_true c39
                              (try (have c39b0h:=c39b0;simp only [hl5_1,hl7_3,hl7_4] at c39b0h))
                              clear c39
                              by_cases c40 : 0 ≤ x40_4
                              ·rw [if_pos c40] at H
                               have c40b0 : decide (0 ≤ x40_4) = true:=decide_eq_true c40
                               clear c40
                               by_cases c41 : x40_4 < (l0_2.length : Int)
                               ·rw [if_pos c41] at H
                                have c41b0 : decide (x40_4 < (l0_2.length : Int)) = true:=decide_eq_true c41
                                (try (have c41b0h:=c41b0;simp only [hl5_1,hl7_3,hl7_4] at c41b0h))
                                clear c41
                                by_cases c42 : x54_5 < ((rd_L1 l0_2 x40_4).length : Int)
                                ·rw [if_pos c42] at H
                                 have c42b0 : decide (x54_5 < ((rd_L1 l0_2 x40_4).length : Int)) = true:=decide_eq_true c42
                                 (try (have c42b0h:=c42b0;simp only [hl5_1,hl7_3,hl7_4] at c42b0h))
                                 clear c42
                                 by_cases c43 : 0 ≤ (rd (rd_L1 l0_2 x40_4) x54_5)
                                 ·rw [if_pos c43] at H
                                  have c43b0 : decide (0 ≤ (rd (rd_L1 l0_2 x40_4) x54_5)) = true:=decide_eq_true c43
                                  clear c43
                                  by_cases c44 : (rd (rd_L1 l0_2 x40_4) x54_5) < (x5_2.length : Int)
                                  ·rw [if_pos c44] at H
                                   have c44b0 : decide ((rd (rd_L1 l0_2 x40_4) x54_5) < (x5_2.length : Int)) = true:=decide_eq_true c44
                                   (try (have c44b0h:=c44b0;simp only [hl5_1,hl7_3,hl7_4] at c44b0h))
                                   clear c44
                                   have H':=Aside0.mk H
                                   clear H
                                   have hcz45_0 : wr.cell? ⟨gb145,0,none⟩ = some (.int .i64 a0_0):=(blk_cell BK145.out 0).trans rfl
                                   have hcz45_1 : wr.cell? ⟨gb145,1,none⟩ = some (.int .i64 a0_1):=(blk_cell BK145.out 1).trans rfl
                                   have hcz45_2 : wr.cell? ⟨gb145,2,none⟩ = some (.slice A0_2 l0_2.length c0_2):=(blk_cell BK145.out 2).trans rfl
                                   have hcz45_3 : wr.cell? ⟨gb145,3,none⟩ = some (.int .i64 a0_3):=(blk_cell BK145.out 3).trans rfl
                                   have hcz45_4 : wr.cell? ⟨gb145,4,none⟩ = some (.int .u32 a0_4):=(blk_cell BK145.out 4).trans rfl
                                   have hfz45_0:=blk_frozen BK145.out 0
                                   have hfz45_1:=blk_frozen BK145.out 1
                                   have hfz45_2:=blk_frozen BK145.out 2
                                   have hfz45_3:=blk_frozen BK145.out 3
                                   have hfz45_4:=blk_frozen BK145.out 4
                                   have p158 : 0 ≤ (x35_3 : Int):=of_decide_eq_true (by first|(with_reducible assumption)|assumption)
                                   have q158 : x35_3 < (l0_2.length : Int):=of_decide_eq_true (by first|(with_reducible assumption)|assumption)
                                   obtain ⟨ad158,A158_0,c158_0,e158,hx158_0,hl158_0,hi158_0⟩:=at_L1 HR0_2.out x35_3 p158 q158
                                   cases e158
                                   replace hx158_0:=(HB.out.cell (World.block_lt_of_cell? w _ hx158_0)).trans hx158_0
                                   have HR158_0:=Aside0.mk hi158_0
                                   have HC158_0:=Aside0.mk hl158_0
                                   clear hi158_0 hl158_0
                                   replace p158:=eq_true p158
                                   replace q158:=eq_true q158
                                   have p159 : 0 ≤ (x54_5 : Int):=of_decide_eq_true (by first|(with_reducible assumption)|assumption)
                                   have q159 : x54_5 < ((rd_L1 l0_2 x35_3).length : Int):=of_decide_eq_true (by first|(with_reducible assumption)|assumption)
                                   obtain ⟨ad159,e159,hx159_0⟩:=Kd.at_int HR158_0.out x54_5 p159 q159
                                   cases e159
                                   replace hx159_0:=(HB.out.cell (World.block_lt_of_cell? w _ hx159_0)).trans hx159_0
                                   replace p159:=eq_true p159
                                   replace q159:=eq_true q159
                                   have p160 : 0 ≤ ((rd (rd_L1 l0_2 x35_3) x54_5) : Int):=of_decide_eq_true (by first|(with_reducible assumption)|assumption)
                                   have q160 : (rd (rd_L1 l0_2 x35_3) x54_5) < (x5_2.length : Int):=of_decide_eq_true (by first|(with_reducible assumption)|assumption)
                                   obtain ⟨ad160,e160,hx160_0⟩:=Kd.at_int (Kd.R_reads' HO_5.out).2.2 (rd (rd_L1 l0_2 x35_3) x54_5) p160 q160
                                   obtain rfl : ad156 = ad160:=(by injection e160)
                                   replace p160:=eq_true p160
                                   replace q160:=eq_true q160
                                   have p161 : 0 ≤ (x40_4 : Int):=of_decide_eq_true (by first|(with_reducible assumption)|assumption)
                                   have q161 : x40_4 < (l0_2.length : Int):=of_decide_eq_true (by first|(with_reducible assumption)|assumption)
                                   obtain ⟨ad161,A161_0,c161_0,e161,hx161_0,hl161_0,hi161_0⟩:=at_L1 HR0_2.out x40_4 p161 q161
                                   obtain rfl : ad158 = ad161:=(by injection e161)
                                   replace hx161_0:=(HB.out.cell (World.block_lt_of_cell? w _ hx161_0)).trans hx161_0
                                   have HR161_0:=Aside0.mk hi161_0
                                   have HC161_0:=Aside0.mk hl161_0
                                   clear hi161_0 hl161_0
                                   replace p161:=eq_true p161
                                   replace q161:=eq_true q161
                                   have p162 : 0 ≤ (x54_5 : Int):=of_decide_eq_true (by first|(with_reducible assumption)|assumption)
                                   have q162 : x54_5 < ((rd_L1 l0_2 x40_4).length : Int):=of_decide_eq_true (by first|(with_reducible assumption)|assumption)
                                   obtain ⟨ad162,e162,hx162_0⟩:=Kd.at_int HR161_0.out x54_5 p162 q162
                                   cases e162
                                   replace hx162_0:=(HB.out.cell (World.block_lt_of_cell? w _ hx162_0)).trans hx162_0
                                   replace p162:=eq_true p162
                                   replace q162:=eq_true q162
                                   have p163 : 0 ≤ ((rd (rd_L1 l0_2 x40_4) x54_5) : Int):=of_decide_eq_true (by first|(with_reducible assumption)|assumption)
                                   have q163 : (rd (rd_L1 l0_2 x40_4) x54_5) < (x5_2.length : Int):=of_decide_eq_true (by first|(with_reducible assumption)|assumption)
                                   obtain ⟨ad163,e163,hx163_0⟩:=Kd.at_int (Kd.R_reads' HO_5.out).2.2 (rd (rd_L1 l0_2 x40_4) x54_5) p163 q163
                                   obtain rfl : ad156 = ad163:=(by injection e163)
                                   replace p163:=eq_true p163
                                   replace q163:=eq_true q163
                                   go_wp2
                                   repeat (go_quiet (fail);try go_wp2)
                                   go_roundg k5
                                   case measure=>have:=HK1.out;have:=HK2.out;have:=HK3.out;have:=HK4.out;have:=HK5.out;omega
                                   case rel=>exact ⟨(((rd x5_2 (rd (rd_L1 l0_2 x35_3) x54_5)) == (rd x5_2 (rd (rd_L1 l0_2 x40_4) x54_5)))),(wrap64 (x54_5 + 1)),(by first|rfl|(simp;done)|(simp [*];done)),(by first|rfl|(simp;done)|(simp [*];done)),H',⟨by have:=HK1.out;have:=HK2.out;have:=HK3.out;have:=HK4.out;have:=HK5.out;omega⟩,⟨by (try simp only [hl5_1]);(try simp only [hl7_3]);(try simp only [hl7_4]);(with_reducible repeat (first|apply Kd.R_alloc|apply Kd.R_drewN|apply Kd.R_drew));exact HO_5.out⟩,⟨by (try simp only [hl5_1]);(try simp only [hl7_3]);(try simp only [hl7_4]);(with_reducible repeat (first|apply Kd.R_alloc|apply Kd.R_drewN|apply Kd.R_drew));exact HO_7.out⟩,⟨by (try simp only [hl5_1]);(try simp only [hl7_3]);(try simp only [hl7_4]);(with_reducible repeat (first|refine blk_drewN ?_ _|refine blk_drew ?_|refine blk_alloc ?_ _));exact BK145.out⟩,⟨by repeat (first|(with_reducible first|exact HB.out|apply below_alloc|apply pw_below_drewN|apply below_drew1|refine below_set ?_ GE145.out)|exact HB.out)⟩⟩
                                  ·rw [if_neg c44] at H
                                   exact absurd H (by simp)
                                 ·rw [if_neg c43] at H
                                  exact absurd H (by simp)
                                ·rw [if_neg c42] at H
                                 exact absurd H (by simp)
                               ·rw [if_neg c41] at H
                                exact absurd H (by simp)
                              ·rw [if_neg c40] at H
                               exact absurd H (by simp)
                             ·rw [if_neg c39] at H
                              exact absurd H (by simp)
                            ·rw [if_neg c38] at H
                             exact absurd H (by simp)
                           ·rw [if_neg c37] at H
                            exact absurd H (by simp)
                          ·rw [if_neg c36] at H
                           exact absurd H (by simp)
                         ·rw [if_neg c35] at H
                          exact absurd H (by simp)
                        ·rw [if_neg c34] at H
                         exact absurd H (by simp)
                       ·replace c33:=Bool.eq_false_iff.mpr c33
                        subst c33
                        have H1 : (least_parts.l4 k5 x5_2 x7_4 x35_3 x40_4 false (y152.length : Int) x35_3 (wrap64 (x35_3 + 1)) x40_4 a0_1 (wrap64 (x54_5 + 1)) a0_0 a0_1 l0_2 a0_3 a0_4) = some r:=by rw [if_neg (show ¬ (false = true) by decide)] at H;exact H
                        clear H
                        have H:=H1
                        clear H1
                        have H':=Aside0.mk H
                        clear H
                        go_wp2
                        repeat (go_quiet (fail);try go_wp2)
                        go_roundg k5
                        case measure=>have:=HK1.out;have:=HK2.out;have:=HK3.out;have:=HK4.out;have:=HK5.out;omega
                        case rel=>exact ⟨(false),(wrap64 (x54_5 + 1)),(by first|rfl|(simp;done)|(simp [*];done)),(by first|rfl|(simp;done)|(simp [*];done)),H',⟨by have:=HK1.out;have:=HK2.out;have:=HK3.out;have:=HK4.out;have:=HK5.out;omega⟩,⟨by (try simp only [hl5_1]);(try simp only [hl7_3]);(try simp only [hl7_4]);(with_reducible repeat (first|apply Kd.R_alloc|apply Kd.R_drewN|apply Kd.R_drew));exact HO_5.out⟩,⟨by (try simp only [hl5_1]);(try simp only [hl7_3]);(try simp only [hl7_4]);(with_reducible repeat (first|apply Kd.R_alloc|apply Kd.R_drewN|apply Kd.R_drew));exact HO_7.out⟩,⟨by (try simp only [hl5_1]);(try simp only [hl7_3]);(try simp only [hl7_4]);(with_reducible repeat (first|refine blk_drewN ?_ _|refine blk_drew ?_|refine blk_alloc ?_ _));exact BK145.out⟩,⟨by repeat (first|(with_reducible first|exact HB.out|apply below_alloc|apply pw_below_drewN|apply below_drew1|refine below_set ?_ GE145.out)|exact HB.out)⟩⟩
                      ·rw [if_neg c32] at H
                       have c32b0 : decide (x54_5 < a0_1) = false:=decide_eq_false c32
                       clear c32
                       by_cases c46 : x10_5 = true
                       ·subst c46
                        have H1 : (if 0 ≤ x35_3 then (if x35_3 < (x7_4.length : Int) then (least_parts.l2 k5 x5_2 (x7_4.set (x35_3 : Int).toNat x40_4) (y152.length : Int) (wrap64 (x35_3 + 1)) a0_0 a0_1 l0_2 a0_3 a0_4) else (none)) else (none)) = some r:=by rw [if_pos rfl] at H;exact H
                        clear H
                        have H:=H1
                        clear H1
                        by_cases c47 : 0 ≤ x35_3
                        ·rw [if_pos c47] at H
                         have c47b0 : decide (0 ≤ x35_3) = true:=decide_eq_true c47
                         clear c47
                         by_cases c48 : x35_3 < (x7_4.length : Int)
                         ·rw [if_pos c48] at H
                          have c48b0 : decide (x35_3 < (x7_4.length : Int)) = true:=decide_eq_true c48
                          (try (have c48b0h:=c48b0;simp only [hl5_1,hl7_3,hl7_4] at c48b0h))
                          clear c48
                          obtain ⟨y164,hy164⟩ : ∃ y_ : List Int,y_ = (x7_4.set (x35_3 : Int).toNat x40_4):=⟨_,rfl⟩
                          replace H : (least_parts.l2 k5 x5_2 y164 (y152.length : Int) (wrap64 (x35_3 + 1)) a0_0 a0_1 l0_2 a0_3 a0_4) = some r:=by first|(rw [hy164];with_reducible exact H)|(have H2_:=(Option.bind_some _ _).symm.trans H;rw [hy164];with_reducible exact H2_)|(have H2_:=(Option.bind_some _ _).symm.trans H;with_reducible exact H2_)|with_reducible exact H|(rw [hy164];exact H)|exact H
                          have Ny164:=Aside0.mk hy164
                          clear hy164
                          have H':=Aside0.mk H
                          clear H
                          have p49 : 0 ≤ (x35_3 : Int):=of_decide_eq_true (by first|(with_reducible assumption)|assumption)
                          have q49 : (x35_3 : Int) < ((x7_4.length : Int) : Int):=of_decide_eq_true (by first|(with_reducible assumption)|assumption)
                          obtain ⟨go49,co49,eo49,gb49,gl49,cl49,HG49⟩:=Kd.R_form HO_7.out (by omega)
                          (first|cases eo49|(injection eo49 with ea_ en_ ec_;(first|subst ea_|(injection ea_ with ea_;subst ea_));subst ec_;clear en_))
                          have GB49:=Aside0.mk gb49
                          have GG49:=Aside0.mk HG49
                          clear gb49 gl49 HG49
                          obtain ⟨hx49_0,hf49_0⟩:=Kd.R_celln 0 HO_7.out (x35_3 : Int) p49 q49
                          replace p49:=eq_true p49
                          replace q49:=eq_true q49
                          have HP50:=Kd.R_putg HO_7.out (x35_3 : Int) x40_4
                          go_wp2_with (first|((with_reducible refine gate_store (t:=3) (p:=88) rfl ?_);(try (rw [drewN_self wr];generalize hq_ : World.drewN wr _ = wr;(try (have z_:=(congrArg (fun W_=>World.frozen? W_ _) hq_).symm.trans hf49_0;clear hf49_0;have hf49_0:=z_;clear z_));(try (have z_:=(congrArg (fun W_=>World.cell? W_ _) hq_).symm.trans hx49_0;clear hx49_0;have hx49_0:=z_;clear z_));have n0_:=Aside0.mk (Kd.R_at hq_ HO_5.out);have n1_:=Aside0.mk (Kd.R_at hq_ HO_7.out);have n2_:=Aside0.mk (blk_at hq_ BK145.out);have n3_:=Aside0.mk (below_at hq_ HB.out);clear hq_ HO_5 HO_7 BK145 HB;have HO_5:=n0_;have HO_7:=n1_;have BK145:=n2_;have HB:=n3_;clear n0_ n1_ n2_ n3_;(try (have HP50:=Kd.R_putg HO_7.out (x35_3 : Int) x40_4))));refine store_event (t:=3) (p:=88) (v:=?vo_w51) (w1:=(wr.setCell ⟨go49,(x35_3 : Int).toNat,none⟩ (.int .i64 x40_4))) ?hg ?ho ?hn ?hr ?_;(case ho=>rfl);(case hg=>rfl);(case hn=>rfl);(case hr=>first|(go_simp;done)|(go_simp;rfl));intro w51 hw;have hg : wr.grownBy w51 (some go49):=(by rw [hw];exact HP50.2);have hp_ : Kd.R (Kd.int .i64) 3 w51 w.heap.size (fun k_=>some k_ ≠ (.slice (some ad156) x5_2.length co30 : Value).ownBlock) (.slice (some ⟨go49,0,none⟩) x7_4.length co23) y164:=(by rw [hw,Ny164.out];exact HP50.1);clear HP50;have n0_:=Aside0.mk (Kd.R_after (v:=(.slice (some ⟨go49,0,none⟩) x7_4.length co23)) (v1:=(.slice (some ⟨go49,0,none⟩) x7_4.length co23)) (ok:=(fun _=>True)) (by (with_reducible repeat (first|apply Kd.R_alloc|apply Kd.R_drewN|apply Kd.R_drew));exact Kd.R_mono HO_5.out (by first|exact fun _ hk=>⟨trivial,hk⟩|(intro _ hk;(repeat' apply And.intro) <;> first|exact hk|exact hk.1|exact hk.2|exact hk.1.1|exact hk.1.2|exact hk.2.1|exact hk.2.2|exact hk.1.1.1|exact hk.1.1.2|exact hk.1.2.1|exact hk.1.2.2|exact hk.2.1.1|exact hk.2.1.2|exact hk.2.2.1|exact hk.2.2.2))) hg (.inl rfl));have n1_:=Aside0.mk (hp_);have n2_:=Aside0.mk (blk_grown (g:=gb145) (o:=.cells #[.int .i64 a0_0,.int .i64 a0_1,.slice A0_2 l0_2.length c0_2,.int .i64 a0_3,.int .u32 a0_4] 63 (0,0)) (by (with_reducible repeat (first|refine blk_drewN ?_ _|refine blk_drew ?_|refine blk_alloc ?_ _));exact BK145.out) hg (Kd.R_ne HO_7.out BK145.out (by decide)));have n3_:=Aside0.mk ((by rw [hw];exact below_set (HB.out) GB49.out : Below w.heap.size w w51));clear HO_5;clear HO_7;clear BK145;clear HB;have HO_5:=n0_;have HO_7:=n1_;have BK145:=n2_;have HB:=n3_;clear n0_ n1_ n2_ n3_;clear hg hw hp_))
                          repeat (go_quiet (first|((with_reducible refine gate_store (t:=3) (p:=88) rfl ?_);(try (rw [drewN_self wr];generalize hq_ : World.drewN wr _ = wr;(try (have z_:=(congrArg (fun W_=>World.frozen? W_ _) hq_).symm.trans hf49_0;clear hf49_0;have hf49_0:=z_;clear z_));(try (have z_:=(congrArg (fun W_=>World.cell? W_ _) hq_).symm.trans hx49_0;clear hx49_0;have hx49_0:=z_;clear z_));have n0_:=Aside0.mk (Kd.R_at hq_ HO_5.out);have n1_:=Aside0.mk (Kd.R_at hq_ HO_7.out);have n2_:=Aside0.mk (blk_at hq_ BK145.out);have n3_:=Aside0.mk (below_at hq_ HB.out);clear hq_ HO_5 HO_7 BK145 HB;have HO_5:=n0_;have HO_7:=n1_;have BK145:=n2_;have HB:=n3_;clear n0_ n1_ n2_ n3_;(try (have HP50:=Kd.R_putg HO_7.out (x35_3 : Int) x40_4))));refine store_event (t:=3) (p:=88) (v:=?vo_w51) (w1:=(wr.setCell ⟨go49,(x35_3 : Int).toNat,none⟩ (.int .i64 x40_4))) ?hg ?ho ?hn ?hr ?_;(case ho=>rfl);(case hg=>rfl);(case hn=>rfl);(case hr=>first|(go_simp;done)|(go_simp;rfl));intro w51 hw;have hg : wr.grownBy w51 (some go49):=(by rw [hw];exact HP50.2);have hp_ : Kd.R (Kd.int .i64) 3 w51 w.heap.size (fun k_=>some k_ ≠ (.slice (some ad156) x5_2.length co30 : Value).ownBlock) (.slice (some ⟨go49,0,none⟩) x7_4.length co23) y164:=(by rw [hw,Ny164.out];exact HP50.1);clear HP50;have n0_:=Aside0.mk (Kd.R_after (v:=(.slice (some ⟨go49,0,none⟩) x7_4.length co23)) (v1:=(.slice (some ⟨go49,0,none⟩) x7_4.length co23)) (ok:=(fun _=>True)) (by (with_reducible repeat (first|apply Kd.R_alloc|apply Kd.R_drewN|apply Kd.R_drew));exact Kd.R_mono HO_5.out (by first|exact fun _ hk=>⟨trivial,hk⟩|(intro _ hk;(repeat' apply And.intro) <;> first|exact hk|exact hk.1|exact hk.2|exact hk.1.1|exact hk.1.2|exact hk.2.1|exact hk.2.2|exact hk.1.1.1|exact hk.1.1.2|exact hk.1.2.1|exact hk.1.2.2|exact hk.2.1.1|exact hk.2.1.2|exact hk.2.2.1|exact hk.2.2.2))) hg (.inl rfl));have n1_:=Aside0.mk (hp_);have n2_:=Aside0.mk (blk_grown (g:=gb145) (o:=.cells #[.int .i64 a0_0,.int .i64 a0_1,.slice A0_2 l0_2.length c0_2,.int .i64 a0_3,.int .u32 a0_4] 63 (0,0)) (by (with_reducible repeat (first|refine blk_drewN ?_ _|refine blk_drew ?_|refine blk_alloc ?_ _));exact BK145.out) hg (Kd.R_ne HO_7.out BK145.out (by decide)));have n3_:=Aside0.mk ((by rw [hw];exact below_set (HB.out) GB49.out : Below w.heap.size w w51));clear HO_5;clear HO_7;clear BK145;clear HB;have HO_5:=n0_;have HO_7:=n1_;have BK145:=n2_;have HB:=n3_;clear n0_ n1_ n2_ n3_;clear hg hw hp_));try go_wp2_with (first|((with_reducible refine gate_store (t:=3) (p:=88) rfl ?_);(try (rw [drewN_self wr];generalize hq_ : World.drewN wr _ = wr;(try (have z_:=(congrArg (fun W_=>World.frozen? W_ _) hq_).symm.trans hf49_0;clear hf49_0;have hf49_0:=z_;clear z_));(try (have z_:=(congrArg (fun W_=>World.cell? W_ _) hq_).symm.trans hx49_0;clear hx49_0;have hx49_0:=z_;clear z_));have n0_:=Aside0.mk (Kd.R_at hq_ HO_5.out);have n1_:=Aside0.mk (Kd.R_at hq_ HO_7.out);have n2_:=Aside0.mk (blk_at hq_ BK145.out);have n3_:=Aside0.mk (below_at hq_ HB.out);clear hq_ HO_5 HO_7 BK145 HB;have HO_5:=n0_;have HO_7:=n1_;have BK145:=n2_;have HB:=n3_;clear n0_ n1_ n2_ n3_;(try (have HP50:=Kd.R_putg HO_7.out (x35_3 : Int) x40_4))));refine store_event (t:=3) (p:=88) (v:=?vo_w51) (w1:=(wr.setCell ⟨go49,(x35_3 : Int).toNat,none⟩ (.int .i64 x40_4))) ?hg ?ho ?hn ?hr ?_;(case ho=>rfl);(case hg=>rfl);(case hn=>rfl);(case hr=>first|(go_simp;done)|(go_simp;rfl));intro w51 hw;have hg : wr.grownBy w51 (some go49):=(by rw [hw];exact HP50.2);have hp_ : Kd.R (Kd.int .i64) 3 w51 w.heap.size (fun k_=>some k_ ≠ (.slice (some ad156) x5_2.length co30 : Value).ownBlock) (.slice (some ⟨go49,0,none⟩) x7_4.length co23) y164:=(by rw [hw,Ny164.out];exact HP50.1);clear HP50;have n0_:=Aside0.mk (Kd.R_after (v:=(.slice (some ⟨go49,0,none⟩) x7_4.length co23)) (v1:=(.slice (some ⟨go49,0,none⟩) x7_4.length co23)) (ok:=(fun _=>True)) (by (with_reducible repeat (first|apply Kd.R_alloc|apply Kd.R_drewN|apply Kd.R_drew));exact Kd.R_mono HO_5.out (by first|exact fun _ hk=>⟨trivial,hk⟩|(intro _ hk;(repeat' apply And.intro) <;> first|exact hk|exact hk.1|exact hk.2|exact hk.1.1|exact hk.1.2|exact hk.2.1|exact hk.2.2|exact hk.1.1.1|exact hk.1.1.2|exact hk.1.2.1|exact hk.1.2.2|exact hk.2.1.1|exact hk.2.1.2|exact hk.2.2.1|exact hk.2.2.2))) hg (.inl rfl));have n1_:=Aside0.mk (hp_);have n2_:=Aside0.mk (blk_grown (g:=gb145) (o:=.cells #[.int .i64 a0_0,.int .i64 a0_1,.slice A0_2 l0_2.length c0_2,.int .i64 a0_3,.int .u32 a0_4] 63 (0,0)) (by (with_reducible repeat (first|refine blk_drewN ?_ _|refine blk_drew ?_|refine blk_alloc ?_ _));exact BK145.out) hg (Kd.R_ne HO_7.out BK145.out (by decide)));have n3_:=Aside0.mk ((by rw [hw];exact below_set (HB.out) GB49.out : Below w.heap.size w w51));clear HO_5;clear HO_7;clear BK145;clear HB;have HO_5:=n0_;have HO_7:=n1_;have BK145:=n2_;have HB:=n3_;clear n0_ n1_ n2_ n3_;clear hg hw hp_)))
                          (try simp only [← hl7_3,← hl7_4])
                          go_roundg k5
                          case measure=>have:=HK1.out;have:=HK2.out;have:=HK3.out;have:=HK4.out;have:=HK5.out;omega
                          case rel=>exact ⟨(y164),(wrap64 (x35_3 + 1)),(by first|rfl|(simp;done)|(simp [*];done)),H',⟨by have:=HK1.out;have:=HK2.out;have:=HK3.out;have:=HK4.out;have:=HK5.out;omega⟩,⟨by (try simp only [hl5_1]);(try simp only [hl7_3]);(try simp only [hl7_4]);(with_reducible repeat (first|apply Kd.R_alloc|apply Kd.R_drewN|apply Kd.R_drew));exact Kd.R_mono HO_5.out (fun _ hk=>hk.2)⟩,⟨by (try simp only [hl5_1]);(try simp only [hl7_3]);(try simp only [hl7_4]);(with_reducible repeat (first|apply Kd.R_alloc|apply Kd.R_drewN|apply Kd.R_drew));exact HO_7.out⟩,⟨by (try simp only [hl5_1]);(try simp only [hl7_3]);(try simp only [hl7_4]);(with_reducible repeat (first|refine blk_drewN ?_ _|refine blk_drew ?_|refine blk_alloc ?_ _));exact BK145.out⟩,⟨by repeat (first|(with_reducible first|exact HB.out|apply below_alloc|apply pw_below_drewN|apply below_drew1|refine below_set ?_ GE145.out)|exact HB.out)⟩⟩
                         ·rw [if_neg c48] at H
                          exact absurd H (by simp)
                        ·rw [if_neg c47] at H
                         exact absurd H (by simp)
                       ·replace c46:=Bool.eq_false_iff.mpr c46
                        subst c46
                        have H1 : (least_parts.l3 k5 x5_2 x7_4 x35_3 (y152.length : Int) x35_3 (wrap64 (x35_3 + 1)) (wrap64 (x40_4 + 1)) a0_0 a0_1 l0_2 a0_3 a0_4) = some r:=by rw [if_neg (show ¬ (false = true) by decide)] at H;exact H
                        clear H
                        have H:=H1
                        clear H1
                        have H':=Aside0.mk H
                        clear H
                        go_wp2
                        repeat (go_quiet (fail);try go_wp2)
                        (try simp only [← hl7_4])
                        go_roundg k5
                        case measure=>have:=HK1.out;have:=HK2.out;have:=HK3.out;have:=HK4.out;have:=HK5.out;omega
                        case rel=>exact ⟨(x7_4),(wrap64 (x40_4 + 1)),(by first|rfl|(simp;done)|(simp [*];done)),H',⟨by have:=HK1.out;have:=HK2.out;have:=HK3.out;have:=HK4.out;have:=HK5.out;omega⟩,⟨by (try simp only [hl5_1]);(try simp only [hl7_3]);(try simp only [hl7_4]);(with_reducible repeat (first|apply Kd.R_alloc|apply Kd.R_drewN|apply Kd.R_drew));exact HO_5.out⟩,⟨by (try simp only [hl5_1]);(try simp only [hl7_3]);(try simp only [hl7_4]);(with_reducible repeat (first|apply Kd.R_alloc|apply Kd.R_drewN|apply Kd.R_drew));exact HO_7.out⟩,⟨by (try simp only [hl5_1]);(try simp only [hl7_3]);(try simp only [hl7_4]);(with_reducible repeat (first|refine blk_drewN ?_ _|refine blk_drew ?_|refine blk_alloc ?_ _));exact BK145.out⟩,⟨by repeat (first|(with_reducible first|exact HB.out|apply below_alloc|apply pw_below_drewN|apply below_drew1|refine below_set ?_ GE145.out)|exact HB.out)⟩⟩
                   ·rw [if_neg c29] at H
                    exact absurd H (by simp)
                  ·rw [if_neg c28] at H
                   exact absurd H (by simp)
                 ·rw [if_neg c27] at H
                  exact absurd H (by simp)
                ·rw [if_neg c26] at H
                 exact absurd H (by simp)
               ·rw [if_neg c25] at H
                have c25b0 : decide (x40_4 < (wrap64 (x35_3 + 1))) = false:=decide_eq_false c25
                clear c25
                have H':=Aside0.mk H
                clear H
                go_wp2
                repeat (go_quiet (fail);try go_wp2)
                (try simp only [← hl7_3,← hl7_4])
                go_roundg k4
                case measure=>have:=HK1.out;have:=HK2.out;have:=HK3.out;have:=HK4.out;omega
                case rel=>exact ⟨(x7_4),(wrap64 (x35_3 + 1)),(by first|rfl|(simp;done)|(simp [*];done)),H',⟨by have:=HK1.out;have:=HK2.out;have:=HK3.out;have:=HK4.out;omega⟩,⟨by (try simp only [hl5_1]);(try simp only [hl7_3]);(try simp only [hl7_4]);(with_reducible repeat (first|apply Kd.R_alloc|apply Kd.R_drewN|apply Kd.R_drew));exact HO_5.out⟩,⟨by (try simp only [hl5_1]);(try simp only [hl7_3]);(try simp only [hl7_4]);(with_reducible repeat (first|apply Kd.R_alloc|apply Kd.R_drewN|apply Kd.R_drew));exact HO_7.out⟩,⟨by (try simp only [hl5_1]);(try simp only [hl7_3]);(try simp only [hl7_4]);(with_reducible repeat (first|refine blk_drewN ?_ _|refine blk_drew ?_|refine blk_alloc ?_ _));exact BK145.out⟩,⟨by repeat (first|(with_reducible first|exact HB.out|apply below_alloc|apply pw_below_drewN|apply below_drew1|refine below_set ?_ GE145.out)|exact HB.out)⟩⟩
            ·rw [if_neg c24] at H
             have c24b0 : decide (x35_3 < (y152.length : Int)) = false:=decide_eq_false c24
             (try (have c24b0h:=c24b0;simp only [hl5_1,hl7_3] at c24b0h))
             clear c24
             replace H:=Option.bind_eq_some_iff.mp H
             obtain ⟨t155,A520,H⟩:=H
             replace H : (if t155 = true then (some x7_3) else (least_parts.l1 k3 x7_3 a0_0 a0_1 l0_2 a0_3 a0_4)) = some r:=H
             have A52:=Aside0.mk A520
             clear A520
             by_cases c53 : t155 = true
             ·subst c53
              have H1 : (some x7_3) = some r:=by rw [if_pos rfl] at H;exact H
              clear H
              have H:=H1
              clear H1
              obtain rfl:=Option.some.inj H
              obtain ⟨Ao54,co54,eo54⟩:=Kd.R_slice HO_5.out
              subst eo54
              go_wp2_with (first|(go_at_call 83;(with_reducible refine (slices_Equal_int_int.calls k3 _ _ x7_3 _ _ x5_2 true _ ?side1 ?side2 ?side3 ?side4 A52.out).mono ?_);(case side1=>repeat (first|exact (Kd.R_reads' HO_7.out).2.2|(with_reducible refine Kd.C_alloc ?_ _)|(with_reducible refine Kd.C_drewN ?_ _)|(with_reducible refine Kd.C_drew ?_)));(case side2=>exact (Kd.R_reads' HO_7.out).2.1);(case side3=>repeat (first|exact (Kd.R_reads' HO_5.out).2.2|(with_reducible refine Kd.C_alloc ?_ _)|(with_reducible refine Kd.C_drewN ?_ _)|(with_reducible refine Kd.C_drew ?_)));(case side4=>exact (Kd.R_reads' HO_5.out).2.1);rintro e w' ⟨rfl,⟨nd,rfl⟩⟩;(try first|exact ⟨rfl,_,World.drewN_drewN _ _ _⟩|exact ⟨rfl,_,Eq.trans (World.drewN_drewN _ _ _) (congrArg (World.drewN _) (Nat.add_assoc _ _ _))⟩)))
              repeat (go_quiet (first|(go_at_call 83;(with_reducible refine (slices_Equal_int_int.calls k3 _ _ x7_3 _ _ x5_2 true _ ?side1 ?side2 ?side3 ?side4 A52.out).mono ?_);(case side1=>repeat (first|exact (Kd.R_reads' HO_7.out).2.2|(with_reducible refine Kd.C_alloc ?_ _)|(with_reducible refine Kd.C_drewN ?_ _)|(with_reducible refine Kd.C_drew ?_)));(case side2=>exact (Kd.R_reads' HO_7.out).2.1);(case side3=>repeat (first|exact (Kd.R_reads' HO_5.out).2.2|(with_reducible refine Kd.C_alloc ?_ _)|(with_reducible refine Kd.C_drewN ?_ _)|(with_reducible refine Kd.C_drew ?_)));(case side4=>exact (Kd.R_reads' HO_5.out).2.1);rintro e w' ⟨rfl,⟨nd,rfl⟩⟩;(try first|exact ⟨rfl,_,World.drewN_drewN _ _ _⟩|exact ⟨rfl,_,Eq.trans (World.drewN_drewN _ _ _) (congrArg (World.drewN _) (Nat.add_assoc _ _ _))⟩)));try go_wp2_with (first|(go_at_call 83;(with_reducible refine (slices_Equal_int_int.calls k3 _ _ x7_3 _ _ x5_2 true _ ?side1 ?side2 ?side3 ?side4 A52.out).mono ?_);(case side1=>repeat (first|exact (Kd.R_reads' HO_7.out).2.2|(with_reducible refine Kd.C_alloc ?_ _)|(with_reducible refine Kd.C_drewN ?_ _)|(with_reducible refine Kd.C_drew ?_)));(case side2=>exact (Kd.R_reads' HO_7.out).2.1);(case side3=>repeat (first|exact (Kd.R_reads' HO_5.out).2.2|(with_reducible refine Kd.C_alloc ?_ _)|(with_reducible refine Kd.C_drewN ?_ _)|(with_reducible refine Kd.C_drew ?_)));(case side4=>exact (Kd.R_reads' HO_5.out).2.1);rintro e w' ⟨rfl,⟨nd,rfl⟩⟩;(try first|exact ⟨rfl,_,World.drewN_drewN _ _ _⟩|exact ⟨rfl,_,Eq.trans (World.drewN_drewN _ _ _) (congrArg (World.drewN _) (Nat.add_assoc _ _ _))⟩))))
              go_ret
              exact ⟨_,by first|rfl|(simp [errW_none,errW_some] <;> rfl)|(simp [*,errW_none,errW_some] <;> rfl),by (with_reducible repeat (first|apply Kd.R_alloc|apply Kd.R_drewN|apply Kd.R_drew));exact Kd.R_mono HO_7.out (fun _ hk=>trivial),by repeat (first|(with_reducible first|exact HB.out|apply below_alloc|apply pw_below_drewN|apply below_drew1|refine below_set ?_ GE145.out)|exact HB.out)⟩
             ·replace c53:=Bool.eq_false_iff.mpr c53
              subst c53
              have H1 : (least_parts.l1 k3 x7_3 a0_0 a0_1 l0_2 a0_3 a0_4) = some r:=by rw [if_neg (show ¬ (false = true) by decide)] at H;exact H
              clear H
              have H:=H1
              clear H1
              have H':=Aside0.mk H
              clear H
              obtain ⟨Ao55,co55,eo55⟩:=Kd.R_slice HO_5.out
              subst eo55
              go_wp2_with (first|(go_at_call 83;(with_reducible refine (slices_Equal_int_int.calls k3 _ _ x7_3 _ _ x5_2 false _ ?side1 ?side2 ?side3 ?side4 A52.out).mono ?_);(case side1=>repeat (first|exact (Kd.R_reads' HO_7.out).2.2|(with_reducible refine Kd.C_alloc ?_ _)|(with_reducible refine Kd.C_drewN ?_ _)|(with_reducible refine Kd.C_drew ?_)));(case side2=>exact (Kd.R_reads' HO_7.out).2.1);(case side3=>repeat (first|exact (Kd.R_reads' HO_5.out).2.2|(with_reducible refine Kd.C_alloc ?_ _)|(with_reducible refine Kd.C_drewN ?_ _)|(with_reducible refine Kd.C_drew ?_)));(case side4=>exact (Kd.R_reads' HO_5.out).2.1);rintro e w' ⟨rfl,⟨nd,rfl⟩⟩;(try first|exact ⟨rfl,_,World.drewN_drewN _ _ _⟩|exact ⟨rfl,_,Eq.trans (World.drewN_drewN _ _ _) (congrArg (World.drewN _) (Nat.add_assoc _ _ _))⟩)))
              repeat (go_quiet (first|(go_at_call 83;(with_reducible refine (slices_Equal_int_int.calls k3 _ _ x7_3 _ _ x5_2 false _ ?side1 ?side2 ?side3 ?side4 A52.out).mono ?_);(case side1=>repeat (first|exact (Kd.R_reads' HO_7.out).2.2|(with_reducible refine Kd.C_alloc ?_ _)|(with_reducible refine Kd.C_drewN ?_ _)|(with_reducible refine Kd.C_drew ?_)));(case side2=>exact (Kd.R_reads' HO_7.out).2.1);(case side3=>repeat (first|exact (Kd.R_reads' HO_5.out).2.2|(with_reducible refine Kd.C_alloc ?_ _)|(with_reducible refine Kd.C_drewN ?_ _)|(with_reducible refine Kd.C_drew ?_)));(case side4=>exact (Kd.R_reads' HO_5.out).2.1);rintro e w' ⟨rfl,⟨nd,rfl⟩⟩;(try first|exact ⟨rfl,_,World.drewN_drewN _ _ _⟩|exact ⟨rfl,_,Eq.trans (World.drewN_drewN _ _ _) (congrArg (World.drewN _) (Nat.add_assoc _ _ _))⟩)));try go_wp2_with (first|(go_at_call 83;(with_reducible refine (slices_Equal_int_int.calls k3 _ _ x7_3 _ _ x5_2 false _ ?side1 ?side2 ?side3 ?side4 A52.out).mono ?_);(case side1=>repeat (first|exact (Kd.R_reads' HO_7.out).2.2|(with_reducible refine Kd.C_alloc ?_ _)|(with_reducible refine Kd.C_drewN ?_ _)|(with_reducible refine Kd.C_drew ?_)));(case side2=>exact (Kd.R_reads' HO_7.out).2.1);(case side3=>repeat (first|exact (Kd.R_reads' HO_5.out).2.2|(with_reducible refine Kd.C_alloc ?_ _)|(with_reducible refine Kd.C_drewN ?_ _)|(with_reducible refine Kd.C_drew ?_)));(case side4=>exact (Kd.R_reads' HO_5.out).2.1);rintro e w' ⟨rfl,⟨nd,rfl⟩⟩;(try first|exact ⟨rfl,_,World.drewN_drewN _ _ _⟩|exact ⟨rfl,_,Eq.trans (World.drewN_drewN _ _ _) (congrArg (World.drewN _) (Nat.add_assoc _ _ _))⟩))))
              (try simp only [← hl7_3])
              go_roundg k3
              case measure=>have:=HK1.out;have:=HK2.out;have:=HK3.out;omega
              case rel=>exact ⟨(x7_3),H',⟨by have:=HK1.out;have:=HK2.out;have:=HK3.out;omega⟩,⟨by (try simp only [hl5_1]);(try simp only [hl7_3]);(with_reducible repeat (first|apply Kd.R_alloc|apply Kd.R_drewN|apply Kd.R_drew));exact Kd.R_mono HO_7.out (fun _ hk=>trivial)⟩,⟨by (try simp only [hl5_1]);(try simp only [hl7_3]);(with_reducible repeat (first|refine blk_drewN ?_ _|refine blk_drew ?_|refine blk_alloc ?_ _));exact BK145.out⟩,⟨by repeat (first|(with_reducible first|exact HB.out|apply below_alloc|apply pw_below_drewN|apply below_drew1|refine below_set ?_ GE145.out)|exact HB.out)⟩⟩
         ·rw [if_neg c19] at H
          exact absurd H (by simp)
        ·rw [if_neg c18] at H
         exact absurd H (by simp)
  ·rw [if_neg c4] at H
   exact absurd H (by simp)
 ·rw [if_neg c3] at H
  exact absurd H (by simp)
end Go.Proofs.Ythgiiikjcfhgjaa.GV
