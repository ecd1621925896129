-- Written by ext.py, a program of this session.
import Derived.Test.YteppbihlpicjpaaGM0
import Derived.Test.YteppbihlpicjpaaGM6
namespace Go.Proofs.Yteppbihlpicjpaa.GM
open Go.RowKit Go.Proofs.YteppbihlpicjpaaW.PrintWords Go.Proofs.YteppbihlpicjpaaW.PrintLast Go.Proofs.YteppbihlpicjpaaW.PrintMore
attribute [local go_sem] max2_int min2_int max_two min_two max_three min_three max_four min_four cellIs_set   -- for this text's walks alone
set_option linter.unusedVariables false
set_option linter.unusedSimpArgs false
/-! ### least_parts: function 35 -/
mutual
def least_parts.l0 : Nat → List Bool → List Int → Int → Int → Int → Int → List (List Int) → Int → Int → Option (List Int)
 | 0,_,_,_,_,_,_,_,_,_=>none
 | k + 1,x1,x5,x16,x17,x142000,x142001,x142002,x142003,x142004=>if x17 < x16 then (if 0 ≤ x17 then (if x17 < (x1.length : Int) then ((slices_Index_bool_bool.f k x1 (rdOf false x1 x17)).bind fun t146=>(if x17 < (x5.length : Int) then (least_parts.l0 k x1 (x5.set (x17 : Int).toNat t146) x16 (wrap64 (x17 + 1)) x142000 x142001 x142002 x142003 x142004) else (none))) else (none)) else (none)) else (least_parts.l1 k x5 x142000 x142001 x142002 x142003 x142004)
def least_parts.l1 : Nat → List Int → Int → Int → List (List Int) → Int → Int → Option (List Int)
 | 0,_,_,_,_,_,_=>none
 | k + 1,x5,x142000,x142001,x142002,x142003,x142004=>if 0 ≤ x142000 then (if (x142000 : Int).toNat ≤ 35184372088832 then ((some (List.replicate (x142000 : Int).toNat 0 : List Int)).bind fun y148=>(least_parts.l2 k x5 y148 (y148.length : Int) 0 x142000 x142001 x142002 x142003 x142004)) else (none)) else (none)
def least_parts.l2 : Nat → List Int → List Int → Int → Int → Int → Int → List (List Int) → Int → Int → Option (List Int)
 | 0,_,_,_,_,_,_,_,_,_=>none
 | k + 1,x5,x7,x34,x35,x142000,x142001,x142002,x142003,x142004=>if x35 < x34 then (least_parts.l3 k x5 x7 x35 x34 x35 (wrap64 (x35 + 1)) 0 x142000 x142001 x142002 x142003 x142004) else ((slices_Equal_int_int.f k x7 x5).bind fun t151=>(if t151 = true then (some x7) else (least_parts.l1 k x7 x142000 x142001 x142002 x142003 x142004)))
def least_parts.l3 : Nat → List Int → List Int → Int → Int → Int → Int → Int → Int → Int → List (List Int) → Int → Int → Option (List Int)
 | 0,_,_,_,_,_,_,_,_,_,_,_,_=>none
 | k + 1,x5,x7,x8,x34,x35,x39,x40,x142000,x142001,x142002,x142003,x142004=>if x40 < x39 then (if 0 ≤ x8 then (if x8 < (x5.length : Int) then (if 0 ≤ x40 then (if x40 < (x5.length : Int) then (least_parts.l4 k x5 x7 x8 x40 ((rd x5 x8) == (rd x5 x40)) x34 x35 x39 x40 x142001 0 x142000 x142001 x142002 x142003 x142004) else (none)) else (none)) else (none)) else (none)) else (least_parts.l2 k x5 x7 x34 (wrap64 (x35 + 1)) x142000 x142001 x142002 x142003 x142004)
def least_parts.l4 : Nat → List Int → List Int → Int → Int → Bool → Int → Int → Int → Int → Int → Int → Int → Int → List (List Int) → Int → Int → Option (List Int)
 | 0,_,_,_,_,_,_,_,_,_,_,_,_,_,_,_,_=>none
 | k + 1,x5,x7,x8,x9,x10,x34,x35,x39,x40,x53,x54,x142000,x142001,x142002,x142003,x142004=>if x54 < x53 then (if x10 = true then (if 0 ≤ x8 then (if x8 < (x142002.length : Int) then (if 0 ≤ x54 then (if x54 < ((rd_L1 x142002 x8).length : Int) then (if 0 ≤ (rd (rd_L1 x142002 x8) x54) then (if (rd (rd_L1 x142002 x8) x54) < (x5.length : Int) then (if 0 ≤ x9 then (if x9 < (x142002.length : Int) then (if x54 < ((rd_L1 x142002 x9).length : Int) then (if 0 ≤ (rd (rd_L1 x142002 x9) x54) then (if (rd (rd_L1 x142002 x9) x54) < (x5.length : Int) then (least_parts.l4 k x5 x7 x8 x9 ((rd x5 (rd (rd_L1 x142002 x8) x54)) == (rd x5 (rd (rd_L1 x142002 x9) x54))) x34 x35 x39 x40 x53 (wrap64 (x54 + 1)) x142000 x142001 x142002 x142003 x142004) else (none)) else (none)) else (none)) else (none)) else (none)) else (none)) else (none)) else (none)) else (none)) else (none)) else (none)) else (least_parts.l4 k x5 x7 x8 x9 false x34 x35 x39 x40 x53 (wrap64 (x54 + 1)) x142000 x142001 x142002 x142003 x142004)) else (if x10 = true then (if 0 ≤ x8 then (if x8 < (x7.length : Int) then (least_parts.l2 k x5 (x7.set (x8 : Int).toNat x9) x34 (wrap64 (x35 + 1)) x142000 x142001 x142002 x142003 x142004) else (none)) else (none)) else (least_parts.l3 k x5 x7 x8 x34 x35 x39 (wrap64 (x40 + 1)) x142000 x142001 x142002 x142003 x142004))
end
def least_parts.f (k : Nat) (a0_0 : Int) (a0_1 : Int) (l0_2 : List (List Int)) (a0_3 : Int) (a0_4 : Int) (l1 : List Bool) : Option (List Int):=if 0 ≤ a0_0 then (if (a0_0 : Int).toNat ≤ 35184372088832 then ((some (List.replicate (a0_0 : Int).toNat 0 : List Int)).bind fun y142=>(least_parts.l0 k l1 y142 (y142.length : Int) 0 a0_0 a0_1 l0_2 a0_3 a0_4)) else (none)) else (none)
theorem least_parts.mono_l : ∀ k,(∀ y0 y1 y2 y3 y4 y5 y6 y7 y8,LeO (least_parts.l0 k y0 y1 y2 y3 y4 y5 y6 y7 y8) (least_parts.l0 (k + 1) y0 y1 y2 y3 y4 y5 y6 y7 y8)) ∧ (∀ y0 y1 y2 y3 y4 y5,LeO (least_parts.l1 k y0 y1 y2 y3 y4 y5) (least_parts.l1 (k + 1) y0 y1 y2 y3 y4 y5)) ∧ (∀ y0 y1 y2 y3 y4 y5 y6 y7 y8,LeO (least_parts.l2 k y0 y1 y2 y3 y4 y5 y6 y7 y8) (least_parts.l2 (k + 1) y0 y1 y2 y3 y4 y5 y6 y7 y8)) ∧ (∀ y0 y1 y2 y3 y4 y5 y6 y7 y8 y9 y10 y11,LeO (least_parts.l3 k y0 y1 y2 y3 y4 y5 y6 y7 y8 y9 y10 y11) (least_parts.l3 (k + 1) y0 y1 y2 y3 y4 y5 y6 y7 y8 y9 y10 y11)) ∧ (∀ y0 y1 y2 y3 y4 y5 y6 y7 y8 y9 y10 y11 y12 y13 y14 y15,LeO (least_parts.l4 k y0 y1 y2 y3 y4 y5 y6 y7 y8 y9 y10 y11 y12 y13 y14 y15) (least_parts.l4 (k + 1) y0 y1 y2 y3 y4 y5 y6 y7 y8 y9 y10 y11 y12 y13 y14 y15))
 | 0=>⟨fun _ _ _ _ _ _ _ _ _ r h=>by simp [least_parts.l0] at h,fun _ _ _ _ _ _ r h=>by simp [least_parts.l1] at h,fun _ _ _ _ _ _ _ _ _ r h=>by simp [least_parts.l2] at h,fun _ _ _ _ _ _ _ _ _ _ _ _ r h=>by simp [least_parts.l3] at h,fun _ _ _ _ _ _ _ _ _ _ _ _ _ _ _ _ r h=>by simp [least_parts.l4] at h⟩
 | k + 1=>by
  obtain ⟨ih0,ih1,ih2,ih3,ih4⟩:=least_parts.mono_l k
  refine ⟨?_,?_,?_,?_,?_⟩
  ·intro y0 y1 y2 y3 y4 y5 y6 y7 y8
   unfold least_parts.l0
   repeat' first
   | (with_reducible exact ih0 _ _ _ _ _ _ _ _ _)
   | (with_reducible exact ih1 _ _ _ _ _ _)
   | (with_reducible exact ih2 _ _ _ _ _ _ _ _ _)
   | (with_reducible exact ih3 _ _ _ _ _ _ _ _ _ _ _ _)
   | (with_reducible exact ih4 _ _ _ _ _ _ _ _ _ _ _ _ _ _ _ _)
   | (with_reducible exact slices_Equal_int_int.mono _ _ _)
   | (with_reducible exact slices_Index_bool_bool.mono _ _ _)
   | (with_reducible exact LeO.refl _)
   | (with_reducible exact LeO.none _)
   | (with_reducible refine LeO.ite ?_ ?_)
   | (with_reducible refine LeO.bind ?_ (fun _=>?_))
   | exact ih0 _ _ _ _ _ _ _ _ _
   | exact ih1 _ _ _ _ _ _
   | exact ih2 _ _ _ _ _ _ _ _ _
   | exact ih3 _ _ _ _ _ _ _ _ _ _ _ _
   | exact ih4 _ _ _ _ _ _ _ _ _ _ _ _ _ _ _ _
   | exact slices_Equal_int_int.mono _ _ _
   | exact slices_Index_bool_bool.mono _ _ _
   | exact LeO.none _
   | refine LeO.ite ?_ ?_
   | refine LeO.bind ?_ (fun _=>?_)
  ·intro y0 y1 y2 y3 y4 y5
   unfold least_parts.l1
   repeat' first
   | (with_reducible exact ih0 _ _ _ _ _ _ _ _ _)
   | (with_reducible exact ih1 _ _ _ _ _ _)
   | (with_reducible exact ih2 _ _ _ _ _ _ _ _ _)
   | (with_reducible exact ih3 _ _ _ _ _ _ _ _ _ _ _ _)
   | (with_reducible exact ih4 _ _ _ _ _ _ _ _ _ _ _ _ _ _ _ _)
   | (with_reducible exact slices_Equal_int_int.mono _ _ _)
   | (with_reducible exact slices_Index_bool_bool.mono _ _ _)
   | (with_reducible exact LeO.refl _)
   | (with_reducible exact LeO.none _)
   | (with_reducible refine LeO.ite ?_ ?_)
   | (with_reducible refine LeO.bind ?_ (fun _=>?_))
   | exact ih0 _ _ _ _ _ _ _ _ _
   | exact ih1 _ _ _ _ _ _
   | exact ih2 _ _ _ _ _ _ _ _ _
   | exact ih3 _ _ _ _ _ _ _ _ _ _ _ _
   | exact ih4 _ _ _ _ _ _ _ _ _ _ _ _ _ _ _ _
   | exact slices_Equal_int_int.mono _ _ _
   | exact slices_Index_bool_bool.mono _ _ _
   | exact LeO.none _
   | refine LeO.ite ?_ ?_
   | refine LeO.bind ?_ (fun _=>?_)
  ·intro y0 y1 y2 y3 y4 y5 y6 y7 y8
   unfold least_parts.l2
   repeat' first
   | (with_reducible exact ih0 _ _ _ _ _ _ _ _ _)
   | (with_reducible exact ih1 _ _ _ _ _ _)
   | (with_reducible exact ih2 _ _ _ _ _ _ _ _ _)
   | (with_reducible exact ih3 _ _ _ _ _ _ _ _ _ _ _ _)
   | (with_reducible exact ih4 _ _ _ _ _ _ _ _ _ _ _ _ _ _ _ _)
   | (with_reducible exact slices_Equal_int_int.mono _ _ _)
   | (with_reducible exact slices_Index_bool_bool.mono _ _ _)
   | (with_reducible exact LeO.refl _)
   | (with_reducible exact LeO.none _)
   | (with_reducible refine LeO.ite ?_ ?_)
   | (with_reducible refine LeO.bind ?_ (fun _=>?_))
   | exact ih0 _ _ _ _ _ _ _ _ _
   | exact ih1 _ _ _ _ _ _
   | exact ih2 _ _ _ _ _ _ _ _ _
   | exact ih3 _ _ _ _ _ _ _ _ _ _ _ _
   | exact ih4 _ _ _ _ _ _ _ _ _ _ _ _ _ _ _ _
   | exact slices_Equal_int_int.mono _ _ _
   | exact slices_Index_bool_bool.mono _ _ _
   | exact LeO.none _
   | refine LeO.ite ?_ ?_
   | refine LeO.bind ?_ (fun _=>?_)
  ·intro y0 y1 y2 y3 y4 y5 y6 y7 y8 y9 y10 y11
   unfold least_parts.l3
   repeat' first
   | (with_reducible exact ih0 _ _ _ _ _ _ _ _ _)
   | (with_reducible exact ih1 _ _ _ _ _ _)
   | (with_reducible exact ih2 _ _ _ _ _ _ _ _ _)
   | (with_reducible exact ih3 _ _ _ _ _ _ _ _ _ _ _ _)
   | (with_reducible exact ih4 _ _ _ _ _ _ _ _ _ _ _ _ _ _ _ _)
   | (with_reducible exact slices_Equal_int_int.mono _ _ _)
   | (with_reducible exact slices_Index_bool_bool.mono _ _ _)
   | (with_reducible exact LeO.refl _)
   | (with_reducible exact LeO.none _)
   | (with_reducible refine LeO.ite ?_ ?_)
   | (with_reducible refine LeO.bind ?_ (fun _=>?_))
   | exact ih0 _ _ _ _ _ _ _ _ _
   | exact ih1 _ _ _ _ _ _
   | exact ih2 _ _ _ _ _ _ _ _ _
   | exact ih3 _ _ _ _ _ _ _ _ _ _ _ _
   | exact ih4 _ _ _ _ _ _ _ _ _ _ _ _ _ _ _ _
   | exact slices_Equal_int_int.mono _ _ _
   | exact slices_Index_bool_bool.mono _ _ _
   | exact LeO.none _
   | refine LeO.ite ?_ ?_
   | refine LeO.bind ?_ (fun _=>?_)
  ·intro y0 y1 y2 y3 y4 y5 y6 y7 y8 y9 y10 y11 y12 y13 y14 y15
   unfold least_parts.l4
   repeat' first
   | (with_reducible exact ih0 _ _ _ _ _ _ _ _ _)
   | (with_reducible exact ih1 _ _ _ _ _ _)
   | (with_reducible exact ih2 _ _ _ _ _ _ _ _ _)
   | (with_reducible exact ih3 _ _ _ _ _ _ _ _ _ _ _ _)
   | (with_reducible exact ih4 _ _ _ _ _ _ _ _ _ _ _ _ _ _ _ _)
   | (with_reducible exact slices_Equal_int_int.mono _ _ _)
   | (with_reducible exact slices_Index_bool_bool.mono _ _ _)
   | (with_reducible exact LeO.refl _)
   | (with_reducible exact LeO.none _)
   | (with_reducible refine LeO.ite ?_ ?_)
   | (with_reducible refine LeO.bind ?_ (fun _=>?_))
   | exact ih0 _ _ _ _ _ _ _ _ _
   | exact ih1 _ _ _ _ _ _
   | exact ih2 _ _ _ _ _ _ _ _ _
   | exact ih3 _ _ _ _ _ _ _ _ _ _ _ _
   | exact ih4 _ _ _ _ _ _ _ _ _ _ _ _ _ _ _ _
   | exact slices_Equal_int_int.mono _ _ _
   | exact slices_Index_bool_bool.mono _ _ _
   | exact LeO.none _
   | refine LeO.ite ?_ ?_
   | refine LeO.bind ?_ (fun _=>?_)
theorem least_parts.mono : ∀ a0 a1 a2 a3 a4 a5 k,LeO (least_parts.f k a0 a1 a2 a3 a4 a5) (least_parts.f (k + 1) a0 a1 a2 a3 a4 a5):=by
 intro a0 a1 a2 a3 a4 a5 k
 obtain ⟨ih0,ih1,ih2,ih3,ih4⟩:=least_parts.mono_l k
 unfold least_parts.f
 repeat' first
   | (with_reducible exact ih0 _ _ _ _ _ _ _ _ _)
   | (with_reducible exact ih1 _ _ _ _ _ _)
   | (with_reducible exact ih2 _ _ _ _ _ _ _ _ _)
   | (with_reducible exact ih3 _ _ _ _ _ _ _ _ _ _ _ _)
   | (with_reducible exact ih4 _ _ _ _ _ _ _ _ _ _ _ _ _ _ _ _)
   | (with_reducible exact slices_Equal_int_int.mono _ _ _)
   | (with_reducible exact slices_Index_bool_bool.mono _ _ _)
   | (with_reducible exact LeO.refl _)
   | (with_reducible exact LeO.none _)
   | (with_reducible refine LeO.ite ?_ ?_)
   | (with_reducible refine LeO.bind ?_ (fun _=>?_))
   | exact ih0 _ _ _ _ _ _ _ _ _
   | exact ih1 _ _ _ _ _ _
   | exact ih2 _ _ _ _ _ _ _ _ _
   | exact ih3 _ _ _ _ _ _ _ _ _ _ _ _
   | exact ih4 _ _ _ _ _ _ _ _ _ _ _ _ _ _ _ _
   | exact slices_Equal_int_int.mono _ _ _
   | exact slices_Index_bool_bool.mono _ _ _
   | exact LeO.none _
   | refine LeO.ite ?_ ?_
   | refine LeO.bind ?_ (fun _=>?_)
theorem qDs7_ {p q : Prop} (H : q) (h : q → p:=by intro h_;(with_reducible repeat (first|refine blk_drewN ?_ _|refine blk_drew ?_|refine blk_alloc ?_ _));exact h_) : p:=h H
theorem qRs7_ {p q : Prop} (H : q) (h : q → p:=by intro h_;(with_reducible repeat (first|apply Kd.R_alloc|apply Kd.R_drewN|apply Kd.R_drew));exact h_) : p:=h H
theorem qBs7_2 {p : Prop} (h : p:=by repeat (first|(with_reducible first|exact HB.out|apply below_alloc|apply pw_below_drewN|apply below_drew1)|exact HB.out)) : p:=h
theorem qBs7_3 {p : Prop} (h : p:=by repeat (first|(with_reducible first|exact HB.out|apply below_alloc|apply pw_below_drewN|apply below_drew1|refine below_set ?_ GE141.out)|exact HB.out)) : p:=h
theorem qAs7_4 {p : Prop} (h : p:=by first|(with_reducible assumption)|assumption) : p:=h
set_option maxHeartbeats 8000000 in
set_option maxRecDepth 100000 in
theorem least_parts.calls (k : Nat) (a0_0 : Int) (a0_1 : Int) (A0_2 : Option Addr) (c0_2 : Nat) (l0_2 : List (List Int)) (a0_3 : Int) (a0_4 : Int) (A1 : Option Addr) (c1 : Nat) (l1 : List Bool) (r : List Int) (w : World) (hr0_2 : Kd.C (Kd.slice 3 (Kd.int .i64)) w A0_2 l0_2.length l0_2) (hc0_2 : l0_2.length ≤ c0_2) (hr1 : Kd.C Kd.bool w A1 l1.length l1) (hc1 : l1.length ≤ c1) (h : least_parts.f k a0_0 a0_1 l0_2 a0_3 a0_4 l1 = some r) :
  Calls Try.prog 35 #[.agg #[.int .i64 a0_0,.int .i64 a0_1,.slice A0_2 l0_2.length c0_2,.int .i64 a0_3,.int .u32 a0_4],.slice A1 l1.length c1] w fun e w'=>∃ v0_ : Value,e = .returned (v0_) ∧ Kd.R (Kd.int .i64) 3 w' w.heap.size (fun _=>True) v0_ r ∧ Below w.heap.size w w':=by
 have hu25:=Try.underlying25
 have HR0_2:=Aside0.mk hr0_2
 have HC0_2:=Aside0.mk hc0_2
 clear hr0_2 hc0_2
 have HR1:=Aside0.mk hr1
 have HC1:=Aside0.mk hc1
 clear hr1 hc1
 have HB:=Aside0.mk (Below.refl w.heap.size w)
 have H : (if 0 ≤ a0_0 then (if (a0_0 : Int).toNat ≤ 35184372088832 then ((some (List.replicate (a0_0 : Int).toNat 0 : List Int)).bind fun y142=>(least_parts.l0 k l1 y142 (y142.length : Int) 0 a0_0 a0_1 l0_2 a0_3 a0_4)) else (none)) else (none)) = some r:=h
 clear h
 by_cases c3 : 0 ≤ a0_0
 ·rw [if_pos c3] at H
  have c3b0:=eq_true c3
  have c3b1 : decide (0 ≤ a0_0) = true:=decide_eq_true c3
  clear c3
  by_cases c4 : (a0_0 : Int).toNat ≤ 35184372088832
  ·rw [if_pos c4] at H
   have c4b0:=eq_true c4
   have c4b1 : decide ((a0_0 : Int).toNat ≤ 35184372088832) = true:=decide_eq_true c4
   clear c4
   obtain ⟨y142,hy142⟩ : ∃ y_ : List Int,y_ = (List.replicate (a0_0 : Int).toNat 0):=⟨_,rfl⟩
   replace H : (least_parts.l0 k l1 y142 (y142.length : Int) 0 a0_0 a0_1 l0_2 a0_3 a0_4) = some r:=by first|(rw [hy142];with_reducible exact H)|(have H2_:=(Option.bind_some _ _).symm.trans H;rw [hy142];with_reducible exact H2_)|(have H2_:=(Option.bind_some _ _).symm.trans H;with_reducible exact H2_)|with_reducible exact H|(rw [hy142];exact H)|exact H
   have Ny142:=Aside0.mk hy142
   clear hy142
   have H':=Aside0.mk H
   clear H
   go_enter Try.func35,Try.ntmps35
   go_wp2_with (first|((with_reducible refine gate_dst (N:=2) rfl ?_);refine box_event ?hg (N:=2) ?hd (cs:=#[.int .i64 a0_0,.int .i64 a0_1,.slice A0_2 l0_2.length c0_2,.int .i64 a0_3,.int .u32 a0_4]) (t:=25) ?hr ?_;(case hd=>rfl);(case hg=>rfl);(case hr=>first|(go_simp;done)|(go_simp;rfl));intro gb141 hg w5 hbox hb;have n0_:=Aside0.mk (below_step qBs7_2 hb);have n1_:=Aside0.mk (hbox);have n2_:=Aside0.mk ((by rw [hg];exact (below_size qBs7_2) : w.heap.size ≤ gb141));have n3_:=Aside0.mk ((by rw [hg];exact (below_size qBs7_2) : w.heap.size ≤ gb141));clear HB;have HB:=n0_;have BK141:=n1_;have GW141:=n2_;have GE141:=n3_;clear n0_ n1_ n2_ n3_;clear hb hbox hg;have Al : w5.cell? ⟨gb141,0,none⟩ = some (.int .i64 a0_0):=(blk_cell BK141.out 0).trans rfl;have Am : w5.cell? ⟨gb141,1,none⟩ = some (.int .i64 a0_1):=(blk_cell BK141.out 1).trans rfl;have An : w5.cell? ⟨gb141,2,none⟩ = some (.slice A0_2 l0_2.length c0_2):=(blk_cell BK141.out 2).trans rfl;have Ao : w5.cell? ⟨gb141,3,none⟩ = some (.int .i64 a0_3):=(blk_cell BK141.out 3).trans rfl;have Ap : w5.cell? ⟨gb141,4,none⟩ = some (.int .u32 a0_4):=(blk_cell BK141.out 4).trans rfl;have Aq:=blk_frozen BK141.out 0;have Ar:=blk_frozen BK141.out 1;have As:=blk_frozen BK141.out 2;have At:=blk_frozen BK141.out 3;have Au:=blk_frozen BK141.out 4)|((with_reducible refine gate_dst (N:=14) rfl ?_);refine Kd.R_make (Kd.int .i64) _ 3 rfl (N:=14) rfl 26 _ _ rfl a0_0 rfl rfl Try.underlying26 (.int .i64 0) 8 info3 rfl (by decide) (by omega) 0 (ok:=fun _=>True) (okp:=fun _=>True) rfl (fun _ hk=>hk) trivial (of_decide_eq_true qAs7_4) (Nat.le_trans (Nat.mul_le_mul_right _ (of_decide_eq_true qAs7_4 : a0_0.toNat ≤ 35184372088832)) (by omega)) (Below.refl _ _) (Nat.le_refl _) ?_;intro v143 w7 ho8 hb hg_ hnew_;clear hg_ hnew_;(first|rw [← Ny142.out] at ho8|(simp only [Int.reduceToNat] at ho8;rw [← Ny142.out] at ho8));have n0_:=Aside0.mk (Kd.R_lower ho8 (below_size qBs7_3));have n1_:=Aside0.mk (blk_below (g:=gb141) (o:=.cells #[.int .i64 a0_0,.int .i64 a0_1,.slice A0_2 l0_2.length c0_2,.int .i64 a0_3,.int .u32 a0_4] 25 (0,0)) (qDs7_ BK141.out) hb);have n2_:=Aside0.mk (below_step qBs7_3 hb);clear BK141;clear HB;have Ax:=n0_;have BK141:=n1_;have HB:=n2_;clear n0_ n1_ n2_;clear hb ho8;obtain ⟨Ao9,co9,eo9⟩:=Kd.R_slice Ax.out;subst eo9))
   repeat (go_quiet (first|((with_reducible refine gate_dst (N:=2) rfl ?_);refine box_event ?hg (N:=2) ?hd (cs:=#[.int .i64 a0_0,.int .i64 a0_1,.slice A0_2 l0_2.length c0_2,.int .i64 a0_3,.int .u32 a0_4]) (t:=25) ?hr ?_;(case hd=>rfl);(case hg=>rfl);(case hr=>first|(go_simp;done)|(go_simp;rfl));intro gb141 hg w5 hbox hb;have n0_:=Aside0.mk (below_step qBs7_2 hb);have n1_:=Aside0.mk (hbox);have n2_:=Aside0.mk ((by rw [hg];exact (below_size qBs7_2) : w.heap.size ≤ gb141));have n3_:=Aside0.mk ((by rw [hg];exact (below_size qBs7_2) : w.heap.size ≤ gb141));clear HB;have HB:=n0_;have BK141:=n1_;have GW141:=n2_;have GE141:=n3_;clear n0_ n1_ n2_ n3_;clear hb hbox hg;have Al : w5.cell? ⟨gb141,0,none⟩ = some (.int .i64 a0_0):=(blk_cell BK141.out 0).trans rfl;have Am : w5.cell? ⟨gb141,1,none⟩ = some (.int .i64 a0_1):=(blk_cell BK141.out 1).trans rfl;have An : w5.cell? ⟨gb141,2,none⟩ = some (.slice A0_2 l0_2.length c0_2):=(blk_cell BK141.out 2).trans rfl;have Ao : w5.cell? ⟨gb141,3,none⟩ = some (.int .i64 a0_3):=(blk_cell BK141.out 3).trans rfl;have Ap : w5.cell? ⟨gb141,4,none⟩ = some (.int .u32 a0_4):=(blk_cell BK141.out 4).trans rfl;have Aq:=blk_frozen BK141.out 0;have Ar:=blk_frozen BK141.out 1;have As:=blk_frozen BK141.out 2;have At:=blk_frozen BK141.out 3;have Au:=blk_frozen BK141.out 4)|((with_reducible refine gate_dst (N:=14) rfl ?_);refine Kd.R_make (Kd.int .i64) _ 3 rfl (N:=14) rfl 26 _ _ rfl a0_0 rfl rfl Try.underlying26 (.int .i64 0) 8 info3 rfl (by decide) (by omega) 0 (ok:=fun _=>True) (okp:=fun _=>True) rfl (fun _ hk=>hk) trivial (of_decide_eq_true qAs7_4) (Nat.le_trans (Nat.mul_le_mul_right _ (of_decide_eq_true qAs7_4 : a0_0.toNat ≤ 35184372088832)) (by omega)) (Below.refl _ _) (Nat.le_refl _) ?_;intro v143 w7 ho8 hb hg_ hnew_;clear hg_ hnew_;(first|rw [← Ny142.out] at ho8|(simp only [Int.reduceToNat] at ho8;rw [← Ny142.out] at ho8));have n0_:=Aside0.mk (Kd.R_lower ho8 (below_size qBs7_3));have n1_:=Aside0.mk (blk_below (g:=gb141) (o:=.cells #[.int .i64 a0_0,.int .i64 a0_1,.slice A0_2 l0_2.length c0_2,.int .i64 a0_3,.int .u32 a0_4] 25 (0,0)) (qDs7_ BK141.out) hb);have n2_:=Aside0.mk (below_step qBs7_3 hb);clear BK141;clear HB;have Ax:=n0_;have BK141:=n1_;have HB:=n2_;clear n0_ n1_ n2_;clear hb ho8;obtain ⟨Ao9,co9,eo9⟩:=Kd.R_slice Ax.out;subst eo9));try go_wp2_with (first|((with_reducible refine gate_dst (N:=2) rfl ?_);refine box_event ?hg (N:=2) ?hd (cs:=#[.int .i64 a0_0,.int .i64 a0_1,.slice A0_2 l0_2.length c0_2,.int .i64 a0_3,.int .u32 a0_4]) (t:=25) ?hr ?_;(case hd=>rfl);(case hg=>rfl);(case hr=>first|(go_simp;done)|(go_simp;rfl));intro gb141 hg w5 hbox hb;have n0_:=Aside0.mk (below_step qBs7_2 hb);have n1_:=Aside0.mk (hbox);have n2_:=Aside0.mk ((by rw [hg];exact (below_size qBs7_2) : w.heap.size ≤ gb141));have n3_:=Aside0.mk ((by rw [hg];exact (below_size qBs7_2) : w.heap.size ≤ gb141));clear HB;have HB:=n0_;have BK141:=n1_;have GW141:=n2_;have GE141:=n3_;clear n0_ n1_ n2_ n3_;clear hb hbox hg;have Al : w5.cell? ⟨gb141,0,none⟩ = some (.int .i64 a0_0):=(blk_cell BK141.out 0).trans rfl;have Am : w5.cell? ⟨gb141,1,none⟩ = some (.int .i64 a0_1):=(blk_cell BK141.out 1).trans rfl;have An : w5.cell? ⟨gb141,2,none⟩ = some (.slice A0_2 l0_2.length c0_2):=(blk_cell BK141.out 2).trans rfl;have Ao : w5.cell? ⟨gb141,3,none⟩ = some (.int .i64 a0_3):=(blk_cell BK141.out 3).trans rfl;have Ap : w5.cell? ⟨gb141,4,none⟩ = some (.int .u32 a0_4):=(blk_cell BK141.out 4).trans rfl;have Aq:=blk_frozen BK141.out 0;have Ar:=blk_frozen BK141.out 1;have As:=blk_frozen BK141.out 2;have At:=blk_frozen BK141.out 3;have Au:=blk_frozen BK141.out 4)|((with_reducible refine gate_dst (N:=14) rfl ?_);refine Kd.R_make (Kd.int .i64) _ 3 rfl (N:=14) rfl 26 _ _ rfl a0_0 rfl rfl Try.underlying26 (.int .i64 0) 8 info3 rfl (by decide) (by omega) 0 (ok:=fun _=>True) (okp:=fun _=>True) rfl (fun _ hk=>hk) trivial (of_decide_eq_true qAs7_4) (Nat.le_trans (Nat.mul_le_mul_right _ (of_decide_eq_true qAs7_4 : a0_0.toNat ≤ 35184372088832)) (by omega)) (Below.refl _ _) (Nat.le_refl _) ?_;intro v143 w7 ho8 hb hg_ hnew_;clear hg_ hnew_;(first|rw [← Ny142.out] at ho8|(simp only [Int.reduceToNat] at ho8;rw [← Ny142.out] at ho8));have n0_:=Aside0.mk (Kd.R_lower ho8 (below_size qBs7_3));have n1_:=Aside0.mk (blk_below (g:=gb141) (o:=.cells #[.int .i64 a0_0,.int .i64 a0_1,.slice A0_2 l0_2.length c0_2,.int .i64 a0_3,.int .u32 a0_4] 25 (0,0)) (qDs7_ BK141.out) hb);have n2_:=Aside0.mk (below_step qBs7_3 hb);clear BK141;clear HB;have Ax:=n0_;have BK141:=n1_;have HB:=n2_;clear n0_ n1_ n2_;clear hb ho8;obtain ⟨Ao9,co9,eo9⟩:=Kd.R_slice Ax.out;subst eo9)))
   go_loopg [17] k (fun kq v17 w'=>∃ (Av : List Int) (Ad : Int),v17 = .int .i64 Ad ∧ Aside0 (least_parts.l0 kq l1 Av (y142.length : Int) Ad a0_0 a0_1 l0_2 a0_3 a0_4 = some r) ∧ Aside0 (kq ≤ k) ∧ Aside0 (Kd.R (Kd.int .i64) 3 w' w.heap.size (fun _=>True) (.slice Ao9 y142.length co9) Av) ∧ Aside0 (w'.heap[gb141]? = some (.cells #[.int .i64 a0_0,.int .i64 a0_1,(.slice A0_2 l0_2.length c0_2),.int .i64 a0_3,.int .u32 a0_4] 25 (0,0))) ∧ Aside0 (Below w.heap.size w w'))
   case atStart=>exact ⟨(y142),(0),(by first|rfl|(simp;done)|(simp [*];done)),H',⟨Nat.le_refl _⟩,⟨by (with_reducible repeat (first|apply Kd.R_alloc|apply Kd.R_drewN|apply Kd.R_drew));exact Ax.out⟩,⟨by (with_reducible repeat (first|refine blk_drewN ?_ _|refine blk_drew ?_|refine blk_alloc ?_ _));exact BK141.out⟩,⟨by repeat (first|(with_reducible first|exact HB.out|apply below_alloc|apply pw_below_drewN|apply below_drew1|refine below_set ?_ GE141.out)|exact HB.out)⟩⟩
   case round =>
    clear H'
    try clear c1
    try clear p2
    try clear c3
    try clear c3b0
    try clear c3b1
    try clear c4
    try clear c4b0
    try clear c4b1
    try clear Al
    try clear Am
    try clear An
    try clear Ao
    try clear Ap
    try clear Aq
    try clear Ar
    try clear As
    try clear At
    try clear Au
    obtain ⟨Av,Ad,rfl,HA,HK1,Ab,BK141,HB⟩:=hrel
    have hl5_1:=(Kd.R_reads' Ab.out).1
    rw [hl5_1] at Ab
    (try simp only [hl5_1])
    (try simp only [hl5_1] at BK141)
    cases gk with
    | zero=>exact absurd HA.out (by simp [least_parts.l0])
    | succ k1 =>
     have H:=HA.out
     clear HA
     simp only [least_parts.l0] at H
     by_cases c10 : Ad < (y142.length : Int)
     ·rw [if_pos c10] at H
      have c10b0 : decide (Ad < (y142.length : Int)) = true:=decide_eq_true c10
      (try (have c10b0h:=c10b0;simp only [hl5_1] at c10b0h))
      clear c10
      by_cases c11 : 0 ≤ Ad
      ·rw [if_pos c11] at H
       have c11b0 : decide (0 ≤ Ad) = true:=decide_eq_true c11
       clear c11
       by_cases c12 : Ad < (l1.length : Int)
       ·rw [if_pos c12] at H
        have c12b0 : decide (Ad < (l1.length : Int)) = true:=decide_eq_true c12
        (try (have c12b0h:=c12b0;simp only [hl5_1] at c12b0h))
        clear c12
        replace H:=Option.bind_eq_some_iff.mp H
        obtain ⟨Aw,A130,H⟩:=H
        replace H : (if Ad < (Av.length : Int) then (least_parts.l0 k1 l1 (Av.set (Ad : Int).toNat Aw) (y142.length : Int) (wrap64 (Ad + 1)) a0_0 a0_1 l0_2 a0_3 a0_4) else (none)) = some r:=H
        have A13:=Aside0.mk A130
        clear A130
        by_cases c14 : Ad < (Av.length : Int)
        ·rw [if_pos c14] at H
         have c14b0 : decide (Ad < (Av.length : Int)) = true:=decide_eq_true c14
         (try (have c14b0h:=c14b0;simp only [hl5_1] at c14b0h))
         clear c14
         obtain ⟨y147,hy147⟩ : ∃ y_ : List Int,y_ = (Av.set (Ad : Int).toNat Aw):=⟨_,rfl⟩
         replace H : (least_parts.l0 k1 l1 y147 (y142.length : Int) (wrap64 (Ad + 1)) a0_0 a0_1 l0_2 a0_3 a0_4) = some r:=by first|(rw [hy147];with_reducible exact H)|(have H2_:=(Option.bind_some _ _).symm.trans H;rw [hy147];with_reducible exact H2_)|(have H2_:=(Option.bind_some _ _).symm.trans H;with_reducible exact H2_)|with_reducible exact H|(rw [hy147];exact H)|exact H
         have Ny147:=Aside0.mk hy147
         clear hy147
         have H':=Aside0.mk H
         clear H
         have p145 : 0 ≤ (Ad : Int):=of_decide_eq_true qAs7_4
         have q145 : Ad < (l1.length : Int):=of_decide_eq_true qAs7_4
         obtain ⟨ad145,e145,hx145_0⟩:=Kd.at_bool HR1.out Ad p145 q145
         cases e145
         replace hx145_0:=(HB.out.cell (World.block_lt_of_cell? w _ hx145_0)).trans hx145_0
         replace p145:=eq_true p145
         replace q145:=eq_true q145
         go_wp2_with (first|(go_at_call 37;(with_reducible refine (slices_Index_bool_bool.calls k1 _ _ l1 (rdOf false l1 Ad) Aw _ ?side1 ?side2 A13.out).mono ?_);(case side1=>repeat (first|exact (Kd.C_below HR1.out HB.out)|(with_reducible refine Kd.C_alloc ?_ _)|(with_reducible refine Kd.C_drewN ?_ _)|(with_reducible refine Kd.C_drew ?_)));(case side2=>exact HC1.out);rintro e w' ⟨rfl,⟨nd,rfl⟩⟩;(try first|exact ⟨rfl,_,World.drewN_drewN _ _ _⟩|exact ⟨rfl,_,Eq.trans (World.drewN_drewN _ _ _) (congrArg (World.drewN _) (Nat.add_assoc _ _ _))⟩);have p15 : 0 ≤ (Ad : Int):=of_decide_eq_true qAs7_4;have q15 : (Ad : Int) < ((Av.length : Int) : Int):=of_decide_eq_true qAs7_4;obtain ⟨go15,co15,eo15,gb15,gl15,cl15,HG15⟩:=Kd.R_form Ab.out (by omega);(first|cases eo15|(injection eo15 with ea_ en_ ec_;(first|subst ea_|(injection ea_ with ea_;subst ea_));subst ec_;clear en_));have GB15:=Aside0.mk gb15;have GG15:=Aside0.mk HG15;clear gb15 gl15 HG15;obtain ⟨hx15_0,hf15_0⟩:=Kd.R_celln 0 Ab.out (Ad : Int) p15 q15;replace p15:=eq_true p15;replace q15:=eq_true q15;obtain ⟨hy16_,hz16_⟩:=Kd.R_celln 0 Ab.out (Ad : Int) (of_decide_eq_true qAs7_4) (of_decide_eq_true qAs7_4);have HP16:=Kd.R_putg Ab.out (Ad : Int) Aw)|((with_reducible refine gate_store (t:=3) (p:=28) rfl ?_);(try (rw [drewN_self wr];generalize hq_ : World.drewN wr _ = wr;(try (have z_:=(congrArg (fun W_=>World.cell? W_ _) hq_).symm.trans hx145_0;clear hx145_0;have hx145_0:=z_;clear z_));have n0_:=Aside0.mk (Kd.R_at hq_ Ab.out);have n1_:=Aside0.mk (blk_at hq_ BK141.out);have n2_:=Aside0.mk (below_at hq_ HB.out);clear hq_ Ab BK141 HB;have Ab:=n0_;have BK141:=n1_;have HB:=n2_;clear n0_ n1_ n2_;(try (obtain ⟨hy16_,hz16_⟩:=Kd.R_celln 0 Ab.out (Ad : Int) (of_decide_eq_true qAs7_4) (of_decide_eq_true qAs7_4)));(try (have HP16:=Kd.R_putg Ab.out (Ad : Int) Aw))));refine store_event (t:=3) (p:=28) (v:=?vo_w17) (w1:=(wr.setCell ⟨go15,(Ad : Int).toNat,none⟩ (.int .i64 Aw))) ?hg ?ho ?hn ?hr ?_;(case ho=>rfl);(case hg=>rfl);(case hn=>rfl);(case hr=>first|(go_simp;done)|(go_simp;rfl));intro w17 hw;have hg : wr.grownBy w17 (some go15):=(by rw [hw];exact HP16.2);have hp_ : Kd.R (Kd.int .i64) 3 w17 w.heap.size (fun _=>True) (.slice (some ⟨go15,0,none⟩) Av.length co9) y147:=(by rw [hw,Ny147.out];exact HP16.1);clear HP16;have n0_:=Aside0.mk (hp_);have n1_:=Aside0.mk (blk_grown (g:=gb141) (o:=.cells #[.int .i64 a0_0,.int .i64 a0_1,.slice A0_2 l0_2.length c0_2,.int .i64 a0_3,.int .u32 a0_4] 25 (0,0)) (qDs7_ BK141.out) hg (Kd.R_ne Ab.out BK141.out (by decide)));have n2_:=Aside0.mk ((by rw [hw];exact below_set (HB.out) GB15.out : Below w.heap.size w w17));clear Ab;clear BK141;clear HB;have Ab:=n0_;have BK141:=n1_;have HB:=n2_;clear n0_ n1_ n2_;clear hg hw hp_))
         repeat (go_quiet (first|(go_at_call 37;(with_reducible refine (slices_Index_bool_bool.calls k1 _ _ l1 (rdOf false l1 Ad) Aw _ ?side1 ?side2 A13.out).mono ?_);(case side1=>repeat (first|exact (Kd.C_below HR1.out HB.out)|(with_reducible refine Kd.C_alloc ?_ _)|(with_reducible refine Kd.C_drewN ?_ _)|(with_reducible refine Kd.C_drew ?_)));(case side2=>exact HC1.out);rintro e w' ⟨rfl,⟨nd,rfl⟩⟩;(try first|exact ⟨rfl,_,World.drewN_drewN _ _ _⟩|exact ⟨rfl,_,Eq.trans (World.drewN_drewN _ _ _) (congrArg (World.drewN _) (Nat.add_assoc _ _ _))⟩);have p15 : 0 ≤ (Ad : Int):=of_decide_eq_true qAs7_4;have q15 : (Ad : Int) < ((Av.length : Int) : Int):=of_decide_eq_true qAs7_4;obtain ⟨go15,co15,eo15,gb15,gl15,cl15,HG15⟩:=Kd.R_form Ab.out (by omega);(first|cases eo15|(injection eo15 with ea_ en_ ec_;(first|subst ea_|(injection ea_ with ea_;subst ea_));subst ec_;clear en_));have GB15:=Aside0.mk gb15;have GG15:=Aside0.mk HG15;clear gb15 gl15 HG15;obtain ⟨hx15_0,hf15_0⟩:=Kd.R_celln 0 Ab.out (Ad : Int) p15 q15;replace p15:=eq_true p15;replace q15:=eq_true q15;obtain ⟨hy16_,hz16_⟩:=Kd.R_celln 0 Ab.out (Ad : Int) (of_decide_eq_true qAs7_4) (of_decide_eq_true qAs7_4);have HP16:=Kd.R_putg Ab.out (Ad : Int) Aw)|((with_reducible refine gate_store (t:=3) (p:=28) rfl ?_);(try (rw [drewN_self wr];generalize hq_ : World.drewN wr _ = wr;(try (have z_:=(congrArg (fun W_=>World.cell? W_ _) hq_).symm.trans hx145_0;clear hx145_0;have hx145_0:=z_;clear z_));have n0_:=Aside0.mk (Kd.R_at hq_ Ab.out);have n1_:=Aside0.mk (blk_at hq_ BK141.out);have n2_:=Aside0.mk (below_at hq_ HB.out);clear hq_ Ab BK141 HB;have Ab:=n0_;have BK141:=n1_;have HB:=n2_;clear n0_ n1_ n2_;(try (obtain ⟨hy16_,hz16_⟩:=Kd.R_celln 0 Ab.out (Ad : Int) (of_decide_eq_true qAs7_4) (of_decide_eq_true qAs7_4)));(try (have HP16:=Kd.R_putg Ab.out (Ad : Int) Aw))));refine store_event (t:=3) (p:=28) (v:=?vo_w17) (w1:=(wr.setCell ⟨go15,(Ad : Int).toNat,none⟩ (.int .i64 Aw))) ?hg ?ho ?hn ?hr ?_;(case ho=>rfl);(case hg=>rfl);(case hn=>rfl);(case hr=>first|(go_simp;done)|(go_simp;rfl));intro w17 hw;have hg : wr.grownBy w17 (some go15):=(by rw [hw];exact HP16.2);have hp_ : Kd.R (Kd.int .i64) 3 w17 w.heap.size (fun _=>True) (.slice (some ⟨go15,0,none⟩) Av.length co9) y147:=(by rw [hw,Ny147.out];exact HP16.1);clear HP16;have n0_:=Aside0.mk (hp_);have n1_:=Aside0.mk (blk_grown (g:=gb141) (o:=.cells #[.int .i64 a0_0,.int .i64 a0_1,.slice A0_2 l0_2.length c0_2,.int .i64 a0_3,.int .u32 a0_4] 25 (0,0)) (qDs7_ BK141.out) hg (Kd.R_ne Ab.out BK141.out (by decide)));have n2_:=Aside0.mk ((by rw [hw];exact below_set (HB.out) GB15.out : Below w.heap.size w w17));clear Ab;clear BK141;clear HB;have Ab:=n0_;have BK141:=n1_;have HB:=n2_;clear n0_ n1_ n2_;clear hg hw hp_));try go_wp2_with (first|(go_at_call 37;(with_reducible refine (slices_Index_bool_bool.calls k1 _ _ l1 (rdOf false l1 Ad) Aw _ ?side1 ?side2 A13.out).mono ?_);(case side1=>repeat (first|exact (Kd.C_below HR1.out HB.out)|(with_reducible refine Kd.C_alloc ?_ _)|(with_reducible refine Kd.C_drewN ?_ _)|(with_reducible refine Kd.C_drew ?_)));(case side2=>exact HC1.out);rintro e w' ⟨rfl,⟨nd,rfl⟩⟩;(try first|exact ⟨rfl,_,World.drewN_drewN _ _ _⟩|exact ⟨rfl,_,Eq.trans (World.drewN_drewN _ _ _) (congrArg (World.drewN _) (Nat.add_assoc _ _ _))⟩);have p15 : 0 ≤ (Ad : Int):=of_decide_eq_true qAs7_4;have q15 : (Ad : Int) < ((Av.length : Int) : Int):=of_decide_eq_true qAs7_4;obtain ⟨go15,co15,eo15,gb15,gl15,cl15,HG15⟩:=Kd.R_form Ab.out (by omega);(first|cases eo15|(injection eo15 with ea_ en_ ec_;(first|subst ea_|(injection ea_ with ea_;subst ea_));subst ec_;clear en_));have GB15:=Aside0.mk gb15;have GG15:=Aside0.mk HG15;clear gb15 gl15 HG15;obtain ⟨hx15_0,hf15_0⟩:=Kd.R_celln 0 Ab.out (Ad : Int) p15 q15;replace p15:=eq_true p15;replace q15:=eq_true q15;obtain ⟨hy16_,hz16_⟩:=Kd.R_celln 0 Ab.out (Ad : Int) (of_decide_eq_true qAs7_4) (of_decide_eq_true qAs7_4);have HP16:=Kd.R_putg Ab.out (Ad : Int) Aw)|((with_reducible refine gate_store (t:=3) (p:=28) rfl ?_);(try (rw [drewN_self wr];generalize hq_ : World.drewN wr _ = wr;(try (have z_:=(congrArg (fun W_=>World.cell? W_ _) hq_).symm.trans hx145_0;clear hx145_0;have hx145_0:=z_;clear z_));have n0_:=Aside0.mk (Kd.R_at hq_ Ab.out);have n1_:=Aside0.mk (blk_at hq_ BK141.out);have n2_:=Aside0.mk (below_at hq_ HB.out);clear hq_ Ab BK141 HB;have Ab:=n0_;have BK141:=n1_;have HB:=n2_;clear n0_ n1_ n2_;(try (obtain ⟨hy16_,hz16_⟩:=Kd.R_celln 0 Ab.out (Ad : Int) (of_decide_eq_true qAs7_4) (of_decide_eq_true qAs7_4)));(try (have HP16:=Kd.R_putg Ab.out (Ad : Int) Aw))));refine store_event (t:=3) (p:=28) (v:=?vo_w17) (w1:=(wr.setCell ⟨go15,(Ad : Int).toNat,none⟩ (.int .i64 Aw))) ?hg ?ho ?hn ?hr ?_;(case ho=>rfl);(case hg=>rfl);(case hn=>rfl);(case hr=>first|(go_simp;done)|(go_simp;rfl));intro w17 hw;have hg : wr.grownBy w17 (some go15):=(by rw [hw];exact HP16.2);have hp_ : Kd.R (Kd.int .i64) 3 w17 w.heap.size (fun _=>True) (.slice (some ⟨go15,0,none⟩) Av.length co9) y147:=(by rw [hw,Ny147.out];exact HP16.1);clear HP16;have n0_:=Aside0.mk (hp_);have n1_:=Aside0.mk (blk_grown (g:=gb141) (o:=.cells #[.int .i64 a0_0,.int .i64 a0_1,.slice A0_2 l0_2.length c0_2,.int .i64 a0_3,.int .u32 a0_4] 25 (0,0)) (qDs7_ BK141.out) hg (Kd.R_ne Ab.out BK141.out (by decide)));have n2_:=Aside0.mk ((by rw [hw];exact below_set (HB.out) GB15.out : Below w.heap.size w w17));clear Ab;clear BK141;clear HB;have Ab:=n0_;have BK141:=n1_;have HB:=n2_;clear n0_ n1_ n2_;clear hg hw hp_)))
         (try simp only [← hl5_1])
         go_roundg k1
         case measure=>have:=HK1.out;omega
         case rel=>exact ⟨(y147),(wrap64 (Ad + 1)),(by first|rfl|(simp;done)|(simp [*];done)),H',⟨by have:=HK1.out;omega⟩,⟨by (try simp only [hl5_1]);(with_reducible repeat (first|apply Kd.R_alloc|apply Kd.R_drewN|apply Kd.R_drew));exact Ab.out⟩,⟨by (try simp only [hl5_1]);(with_reducible repeat (first|refine blk_drewN ?_ _|refine blk_drew ?_|refine blk_alloc ?_ _));exact BK141.out⟩,⟨by repeat (first|(with_reducible first|exact HB.out|apply below_alloc|apply pw_below_drewN|apply below_drew1|refine below_set ?_ GE141.out)|exact HB.out)⟩⟩
        ·rw [if_neg c14] at H
         exact absurd H (by simp)
       ·rw [if_neg c12] at H
        exact absurd H (by simp)
      ·rw [if_neg c11] at H
       exact absurd H (by simp)
     ·rw [if_neg c10] at H
      have c10b0 : decide (Ad < (y142.length : Int)) = false:=decide_eq_false c10
      (try (have c10b0h:=c10b0;simp only [hl5_1] at c10b0h))
      clear c10
      have H':=Aside0.mk H
      clear H
      go_wp2
      repeat (go_quiet (fail);try go_wp2)
      go_loopg [5] k1 (fun kq v5 w'=>∃ (Ag : List Int),Aside0 (least_parts.l1 kq Ag a0_0 a0_1 l0_2 a0_3 a0_4 = some r) ∧ Aside0 (kq ≤ k1) ∧ Aside0 (Kd.R (Kd.int .i64) 3 w' w.heap.size (fun _=>True) v5 Ag) ∧ Aside0 (w'.heap[gb141]? = some (.cells #[.int .i64 a0_0,.int .i64 a0_1,(.slice A0_2 l0_2.length c0_2),.int .i64 a0_3,.int .u32 a0_4] 25 (0,0))) ∧ Aside0 (Below w.heap.size w w'))
      case atStart=>exact ⟨(Av),H',⟨Nat.le_refl _⟩,⟨by (try simp only [hl5_1]);(with_reducible repeat (first|apply Kd.R_alloc|apply Kd.R_drewN|apply Kd.R_drew));exact Ab.out⟩,⟨by (try simp only [hl5_1]);(with_reducible repeat (first|refine blk_drewN ?_ _|refine blk_drew ?_|refine blk_alloc ?_ _));exact BK141.out⟩,⟨by repeat (first|(with_reducible first|exact HB.out|apply below_alloc|apply pw_below_drewN|apply below_drew1|refine below_set ?_ GE141.out)|exact HB.out)⟩⟩
      case round =>
       clear H'
       try clear c1
       try clear p1
       try clear q1
       try clear hx1
       try clear p2
       try clear c3
       try clear c3b0
       try clear c3b1
       try clear c4
       try clear c4b0
       try clear c4b1
       try clear p6
       try clear c10
       try clear c10b0
       try clear c11
       try clear c11b0
       try clear c12
       try clear c12b0
       try clear c14
       try clear c14b0
       try clear p14
       try clear q14
       try clear hx14
       try clear p15
       try clear q15
       try clear hx15
       try clear hf15
       try clear Al
       try clear Am
       try clear An
       try clear Ao
       try clear Ap
       try clear Aq
       try clear Ar
       try clear As
       try clear At
       try clear Au
       try clear hx145_0
       try clear hx15_0
       try clear p145
       try clear p15
       try clear p2
       try clear q145
       try clear q15
       obtain ⟨Ag,HA,HK2,Ab,BK141,HB⟩:=hrel
       cases gk with
       | zero=>exact absurd HA.out (by simp [least_parts.l1])
       | succ k2 =>
        have H:=HA.out
        clear HA
        simp only [least_parts.l1] at H
        by_cases c18 : 0 ≤ a0_0
        ·rw [if_pos c18] at H
         have c18b0:=eq_true c18
         have c18b1 : decide (0 ≤ a0_0) = true:=decide_eq_true c18
         clear c18
         by_cases c19 : (a0_0 : Int).toNat ≤ 35184372088832
         ·rw [if_pos c19] at H
          have c19b0:=eq_true c19
          have c19b1 : decide ((a0_0 : Int).toNat ≤ 35184372088832) = true:=decide_eq_true c19
          clear c19
          obtain ⟨Ak,hy148⟩ : ∃ y_ : List Int,y_ = (List.replicate (a0_0 : Int).toNat 0):=⟨_,rfl⟩
          replace H : (least_parts.l2 k2 Ag Ak (Ak.length : Int) 0 a0_0 a0_1 l0_2 a0_3 a0_4) = some r:=by first|(rw [hy148];with_reducible exact H)|(have H2_:=(Option.bind_some _ _).symm.trans H;rw [hy148];with_reducible exact H2_)|(have H2_:=(Option.bind_some _ _).symm.trans H;with_reducible exact H2_)|with_reducible exact H|(rw [hy148];exact H)|exact H
          have Ny148:=Aside0.mk hy148
          clear hy148
          have H':=Aside0.mk H
          clear H
          have hcz20_0 : wr.cell? ⟨gb141,0,none⟩ = some (.int .i64 a0_0):=(blk_cell BK141.out 0).trans rfl
          have hcz20_1 : wr.cell? ⟨gb141,1,none⟩ = some (.int .i64 a0_1):=(blk_cell BK141.out 1).trans rfl
          have hcz20_2 : wr.cell? ⟨gb141,2,none⟩ = some (.slice A0_2 l0_2.length c0_2):=(blk_cell BK141.out 2).trans rfl
          have hcz20_3 : wr.cell? ⟨gb141,3,none⟩ = some (.int .i64 a0_3):=(blk_cell BK141.out 3).trans rfl
          have hcz20_4 : wr.cell? ⟨gb141,4,none⟩ = some (.int .u32 a0_4):=(blk_cell BK141.out 4).trans rfl
          have hfz20_0:=blk_frozen BK141.out 0
          have hfz20_1:=blk_frozen BK141.out 1
          have hfz20_2:=blk_frozen BK141.out 2
          have hfz20_3:=blk_frozen BK141.out 3
          have hfz20_4:=blk_frozen BK141.out 4
          go_wp2_with (first|((with_reducible refine gate_dst (N:=32) rfl ?_);refine Kd.R_make (Kd.int .i64) _ 3 rfl (N:=32) rfl 26 _ _ rfl a0_0 rfl rfl Try.underlying26 (.int .i64 0) 8 info3 rfl (by decide) (by omega) 0 (ok:=fun _=>True) (okp:=fun _=>True) rfl (fun _ hk=>hk) trivial (of_decide_eq_true qAs7_4) (Nat.le_trans (Nat.mul_le_mul_right _ (of_decide_eq_true qAs7_4 : a0_0.toNat ≤ 35184372088832)) (by omega)) (Below.refl _ _) (Nat.le_refl _) ?_;intro v149 w21 ho22 hb hg_ hnew_;clear hg_ hnew_;(first|rw [← Ny148.out] at ho22|(simp only [Int.reduceToNat] at ho22;rw [← Ny148.out] at ho22));have n0_:=Aside0.mk (Kd.R_elder' (qRs7_ Ab.out) (Kd.R_base ho22) hb);have n1_:=Aside0.mk (Kd.R_lower (Kd.R_new' ho22 (Kd.R_lt (qRs7_ Ab.out))) (below_size qBs7_3));have n2_:=Aside0.mk (blk_below (g:=gb141) (o:=.cells #[.int .i64 a0_0,.int .i64 a0_1,.slice A0_2 l0_2.length c0_2,.int .i64 a0_3,.int .u32 a0_4] 25 (0,0)) (qDs7_ BK141.out) hb);have n3_:=Aside0.mk (below_step qBs7_3 hb);clear Ab;clear BK141;clear HB;have Ab:=n0_;have Ay:=n1_;have BK141:=n2_;have HB:=n3_;clear n0_ n1_ n2_ n3_;clear hb ho22;obtain ⟨Ao23,Ai,eo23⟩:=Kd.R_slice Ay.out;subst eo23))
          repeat (go_quiet (first|((with_reducible refine gate_dst (N:=32) rfl ?_);refine Kd.R_make (Kd.int .i64) _ 3 rfl (N:=32) rfl 26 _ _ rfl a0_0 rfl rfl Try.underlying26 (.int .i64 0) 8 info3 rfl (by decide) (by omega) 0 (ok:=fun _=>True) (okp:=fun _=>True) rfl (fun _ hk=>hk) trivial (of_decide_eq_true qAs7_4) (Nat.le_trans (Nat.mul_le_mul_right _ (of_decide_eq_true qAs7_4 : a0_0.toNat ≤ 35184372088832)) (by omega)) (Below.refl _ _) (Nat.le_refl _) ?_;intro v149 w21 ho22 hb hg_ hnew_;clear hg_ hnew_;(first|rw [← Ny148.out] at ho22|(simp only [Int.reduceToNat] at ho22;rw [← Ny148.out] at ho22));have n0_:=Aside0.mk (Kd.R_elder' (qRs7_ Ab.out) (Kd.R_base ho22) hb);have n1_:=Aside0.mk (Kd.R_lower (Kd.R_new' ho22 (Kd.R_lt (qRs7_ Ab.out))) (below_size qBs7_3));have n2_:=Aside0.mk (blk_below (g:=gb141) (o:=.cells #[.int .i64 a0_0,.int .i64 a0_1,.slice A0_2 l0_2.length c0_2,.int .i64 a0_3,.int .u32 a0_4] 25 (0,0)) (qDs7_ BK141.out) hb);have n3_:=Aside0.mk (below_step qBs7_3 hb);clear Ab;clear BK141;clear HB;have Ab:=n0_;have Ay:=n1_;have BK141:=n2_;have HB:=n3_;clear n0_ n1_ n2_ n3_;clear hb ho22;obtain ⟨Ao23,Ai,eo23⟩:=Kd.R_slice Ay.out;subst eo23));try go_wp2_with (first|((with_reducible refine gate_dst (N:=32) rfl ?_);refine Kd.R_make (Kd.int .i64) _ 3 rfl (N:=32) rfl 26 _ _ rfl a0_0 rfl rfl Try.underlying26 (.int .i64 0) 8 info3 rfl (by decide) (by omega) 0 (ok:=fun _=>True) (okp:=fun _=>True) rfl (fun _ hk=>hk) trivial (of_decide_eq_true qAs7_4) (Nat.le_trans (Nat.mul_le_mul_right _ (of_decide_eq_true qAs7_4 : a0_0.toNat ≤ 35184372088832)) (by omega)) (Below.refl _ _) (Nat.le_refl _) ?_;intro v149 w21 ho22 hb hg_ hnew_;clear hg_ hnew_;(first|rw [← Ny148.out] at ho22|(simp only [Int.reduceToNat] at ho22;rw [← Ny148.out] at ho22));have n0_:=Aside0.mk (Kd.R_elder' (qRs7_ Ab.out) (Kd.R_base ho22) hb);have n1_:=Aside0.mk (Kd.R_lower (Kd.R_new' ho22 (Kd.R_lt (qRs7_ Ab.out))) (below_size qBs7_3));have n2_:=Aside0.mk (blk_below (g:=gb141) (o:=.cells #[.int .i64 a0_0,.int .i64 a0_1,.slice A0_2 l0_2.length c0_2,.int .i64 a0_3,.int .u32 a0_4] 25 (0,0)) (qDs7_ BK141.out) hb);have n3_:=Aside0.mk (below_step qBs7_3 hb);clear Ab;clear BK141;clear HB;have Ab:=n0_;have Ay:=n1_;have BK141:=n2_;have HB:=n3_;clear n0_ n1_ n2_ n3_;clear hb ho22;obtain ⟨Ao23,Ai,eo23⟩:=Kd.R_slice Ay.out;subst eo23)))
          go_loopg [35] k2 (fun kq v35 w'=>∃ (Aj : List Int) (Aa : Int),v35 = .int .i64 Aa ∧ Aside0 (least_parts.l2 kq Ag Aj (Ak.length : Int) Aa a0_0 a0_1 l0_2 a0_3 a0_4 = some r) ∧ Aside0 (kq ≤ k2) ∧ Aside0 (Kd.R (Kd.int .i64) 3 w' w.heap.size (fun k_=>some k_ ≠ ((.slice Ao23 Ak.length Ai) : Value).ownBlock) u5 Ag) ∧ Aside0 (Kd.R (Kd.int .i64) 3 w' w.heap.size (fun k_=>some k_ ≠ (u5 : Value).ownBlock) (.slice Ao23 Ak.length Ai) Aj) ∧ Aside0 (w'.heap[gb141]? = some (.cells #[.int .i64 a0_0,.int .i64 a0_1,(.slice A0_2 l0_2.length c0_2),.int .i64 a0_3,.int .u32 a0_4] 25 (0,0))) ∧ Aside0 (Below w.heap.size w w'))
          case atStart=>exact ⟨(Ak),(0),(by first|rfl|(simp;done)|(simp [*];done)),H',⟨Nat.le_refl _⟩,⟨by (try simp only [hl5_1]);(with_reducible repeat (first|apply Kd.R_alloc|apply Kd.R_drewN|apply Kd.R_drew));exact Kd.R_mono Ab.out (fun _ hk=>hk.2)⟩,⟨by (try simp only [hl5_1]);(with_reducible repeat (first|apply Kd.R_alloc|apply Kd.R_drewN|apply Kd.R_drew));exact Kd.R_mono Ay.out (fun _ hk=>hk.2)⟩,⟨by (try simp only [hl5_1]);(with_reducible repeat (first|refine blk_drewN ?_ _|refine blk_drew ?_|refine blk_alloc ?_ _));exact BK141.out⟩,⟨by repeat (first|(with_reducible first|exact HB.out|apply below_alloc|apply pw_below_drewN|apply below_drew1|refine below_set ?_ GE141.out)|exact HB.out)⟩⟩
          case round =>
           clear H'
           try clear c1
           try clear p1
           try clear q1
           try clear hx1
           try clear p2
           try clear c3
           try clear c3b0
           try clear c3b1
           try clear c4
           try clear c4b0
           try clear c4b1
           try clear p6
           try clear c10
           try clear c10b0
           try clear c11
           try clear c11b0
           try clear c12
           try clear c12b0
           try clear c14
           try clear c14b0
           try clear p14
           try clear q14
           try clear hx14
           try clear p15
           try clear q15
           try clear hx15
           try clear hf15
           try clear c18
           try clear c18b0
           try clear c18b1
           try clear c19
           try clear c19b0
           try clear c19b1
           try clear hcz20_0
           try clear hcz20_1
           try clear hcz20_2
           try clear hcz20_3
           try clear hcz20_4
           try clear Al
           try clear Am
           try clear An
           try clear Ao
           try clear Ap
           try clear hfz20_0
           try clear hfz20_1
           try clear hfz20_2
           try clear hfz20_3
           try clear hfz20_4
           try clear Aq
           try clear Ar
           try clear As
           try clear At
           try clear Au
           try clear hx145_0
           try clear hx15_0
           try clear p1
           try clear p14
           try clear p145
           try clear p15
           try clear p2
           try clear p6
           try clear q1
           try clear q14
           try clear q145
           try clear q15
           obtain ⟨Aj,Aa,rfl,HA,HK3,Ab,Af,BK141,HB⟩:=hrel
           have hl7_3:=(Kd.R_reads' Af.out).1
           rw [hl7_3] at Af
           (try simp only [hl7_3])
           (try simp only [hl7_3] at BK141)
           (try simp only [hl7_3] at Ab)
           cases gk with
           | zero=>exact absurd HA.out (by simp [least_parts.l2])
           | succ k3 =>
            have H:=HA.out
            clear HA
            simp only [least_parts.l2] at H
            by_cases c24 : Aa < (Ak.length : Int)
            ·rw [if_pos c24] at H
             have c24b0 : decide (Aa < (Ak.length : Int)) = true:=decide_eq_true c24
             (try (have c24b0h:=c24b0;simp only [hl5_1,hl7_3] at c24b0h))
             clear c24
             have H':=Aside0.mk H
             clear H
             go_wp2
             repeat (go_quiet (fail);try go_wp2)
             go_loopg [40] k3 (fun kq v40 w'=>∃ (Ah : List Int) (Ac : Int),v40 = .int .i64 Ac ∧ Aside0 (least_parts.l3 kq Ag Ah Aa (Ak.length : Int) Aa (wrap64 (Aa + 1)) Ac a0_0 a0_1 l0_2 a0_3 a0_4 = some r) ∧ Aside0 (kq ≤ k3) ∧ Aside0 (Kd.R (Kd.int .i64) 3 w' w.heap.size (fun k_=>some k_ ≠ ((.slice Ao23 Aj.length Ai) : Value).ownBlock) u5 Ag) ∧ Aside0 (Kd.R (Kd.int .i64) 3 w' w.heap.size (fun k_=>some k_ ≠ (u5 : Value).ownBlock) (.slice Ao23 Aj.length Ai) Ah) ∧ Aside0 (w'.heap[gb141]? = some (.cells #[.int .i64 a0_0,.int .i64 a0_1,(.slice A0_2 l0_2.length c0_2),.int .i64 a0_3,.int .u32 a0_4] 25 (0,0))) ∧ Aside0 (Below w.heap.size w w'))
             case atStart=>exact ⟨(Aj),(0),(by first|rfl|(simp;done)|(simp [*];done)),H',⟨Nat.le_refl _⟩,⟨by (try simp only [hl5_1]);(try simp only [hl7_3]);(with_reducible repeat (first|apply Kd.R_alloc|apply Kd.R_drewN|apply Kd.R_drew));exact Ab.out⟩,⟨by (try simp only [hl5_1]);(try simp only [hl7_3]);(with_reducible repeat (first|apply Kd.R_alloc|apply Kd.R_drewN|apply Kd.R_drew));exact Af.out⟩,⟨by (try simp only [hl5_1]);(try simp only [hl7_3]);(with_reducible repeat (first|refine blk_drewN ?_ _|refine blk_drew ?_|refine blk_alloc ?_ _));exact BK141.out⟩,⟨by repeat (first|(with_reducible first|exact HB.out|apply below_alloc|apply pw_below_drewN|apply below_drew1|refine below_set ?_ GE141.out)|exact HB.out)⟩⟩
             case round =>
              clear H'
              try clear c1
              try clear p1
              try clear q1
              try clear hx1
              try clear c2
              try clear p2
              try clear c3
              try clear c3b0
              try clear c3b1
              try clear c4
              try clear c4b0
              try clear c4b1
              try clear p6
              try clear c10
              try clear c10b0
              try clear c11
              try clear c11b0
              try clear c12
              try clear c12b0
              try clear c14
              try clear c14b0
              try clear p14
              try clear q14
              try clear hx14
              try clear p15
              try clear q15
              try clear hx15
              try clear hf15
              try clear c18
              try clear c18b0
              try clear c18b1
              try clear c19
              try clear c19b0
              try clear c19b1
              try clear c24
              try clear c24b0
              try clear hcz20_0
              try clear hcz20_1
              try clear hcz20_2
              try clear hcz20_3
              try clear hcz20_4
              try clear Al
              try clear Am
              try clear An
              try clear Ao
              try clear Ap
              try clear hfz20_0
              try clear hfz20_1
              try clear hfz20_2
              try clear hfz20_3
              try clear hfz20_4
              try clear Aq
              try clear Ar
              try clear As
              try clear At
              try clear Au
              try clear hx145_0
              try clear hx15_0
              try clear p1
              try clear p14
              try clear p145
              try clear p15
              try clear p2
              try clear p6
              try clear q1
              try clear q14
              try clear q145
              try clear q15
              obtain ⟨Ah,Ac,rfl,HA,HK4,Ab,Af,BK141,HB⟩:=hrel
              have hl7_4:=(Kd.R_reads' Af.out).1
              rw [hl7_4] at Af
              (try simp only [hl7_4])
              (try simp only [hl7_4] at BK141)
              (try simp only [hl7_4] at Ab)
              cases gk with
              | zero=>exact absurd HA.out (by simp [least_parts.l3])
              | succ k4 =>
               have H:=HA.out
               clear HA
               simp only [least_parts.l3] at H
               by_cases c25 : Ac < (wrap64 (Aa + 1))
               ·rw [if_pos c25] at H
                have c25b0 : decide (Ac < (wrap64 (Aa + 1))) = true:=decide_eq_true c25
                clear c25
                by_cases c26 : 0 ≤ Aa
                ·rw [if_pos c26] at H
                 have c26b0 : decide (0 ≤ Aa) = true:=decide_eq_true c26
                 clear c26
                 by_cases c27 : Aa < (Ag.length : Int)
                 ·rw [if_pos c27] at H
                  have c27b0 : decide (Aa < (Ag.length : Int)) = true:=decide_eq_true c27
                  (try (have c27b0h:=c27b0;simp only [hl5_1,hl7_3,hl7_4] at c27b0h))
                  clear c27
                  by_cases c28 : 0 ≤ Ac
                  ·rw [if_pos c28] at H
                   have c28b0 : decide (0 ≤ Ac) = true:=decide_eq_true c28
                   clear c28
                   by_cases c29 : Ac < (Ag.length : Int)
                   ·rw [if_pos c29] at H
                    have c29b0 : decide (Ac < (Ag.length : Int)) = true:=decide_eq_true c29
                    (try (have c29b0h:=c29b0;simp only [hl5_1,hl7_3,hl7_4] at c29b0h))
                    clear c29
                    have H':=Aside0.mk H
                    clear H
                    obtain ⟨Ao30,co30,eo30⟩:=Kd.R_slice Ab.out
                    subst eo30
                    have p152 : 0 ≤ (Aa : Int):=of_decide_eq_true qAs7_4
                    have q152 : Aa < (Ag.length : Int):=of_decide_eq_true qAs7_4
                    obtain ⟨ad152,e152,hx152_0⟩:=Kd.at_int (Kd.R_reads' Ab.out).2.2 Aa p152 q152
                    cases e152
                    replace p152:=eq_true p152
                    replace q152:=eq_true q152
                    have p153 : 0 ≤ (Ac : Int):=of_decide_eq_true qAs7_4
                    have q153 : Ac < (Ag.length : Int):=of_decide_eq_true qAs7_4
                    obtain ⟨ad153,e153,hx153_0⟩:=Kd.at_int (Kd.R_reads' Ab.out).2.2 Ac p153 q153
                    obtain rfl : ad152 = ad153:=(by injection e153)
                    replace p153:=eq_true p153
                    replace q153:=eq_true q153
                    have hcz31_0 : wr.cell? ⟨gb141,0,none⟩ = some (.int .i64 a0_0):=(blk_cell BK141.out 0).trans rfl
                    have hcz31_1 : wr.cell? ⟨gb141,1,none⟩ = some (.int .i64 a0_1):=(blk_cell BK141.out 1).trans rfl
                    have hcz31_2 : wr.cell? ⟨gb141,2,none⟩ = some (.slice A0_2 l0_2.length c0_2):=(blk_cell BK141.out 2).trans rfl
                    have hcz31_3 : wr.cell? ⟨gb141,3,none⟩ = some (.int .i64 a0_3):=(blk_cell BK141.out 3).trans rfl
                    have hcz31_4 : wr.cell? ⟨gb141,4,none⟩ = some (.int .u32 a0_4):=(blk_cell BK141.out 4).trans rfl
                    have hfz31_0:=blk_frozen BK141.out 0
                    have hfz31_1:=blk_frozen BK141.out 1
                    have hfz31_2:=blk_frozen BK141.out 2
                    have hfz31_3:=blk_frozen BK141.out 3
                    have hfz31_4:=blk_frozen BK141.out 4
                    go_wp2
                    repeat (go_quiet (fail);try go_wp2)
                    go_loopg [10,54] k4 (fun kq v10 v54 w'=>∃ (x10_5 : Bool) (Ae : Int),v10 = .bool x10_5 ∧ v54 = .int .i64 Ae ∧ Aside0 (least_parts.l4 kq Ag Ah Aa Ac x10_5 (Ak.length : Int) Aa (wrap64 (Aa + 1)) Ac a0_1 Ae a0_0 a0_1 l0_2 a0_3 a0_4 = some r) ∧ Aside0 (kq ≤ k4) ∧ Aside0 (Kd.R (Kd.int .i64) 3 w' w.heap.size (fun k_=>some k_ ≠ ((.slice Ao23 Ah.length Ai) : Value).ownBlock) (.slice (some ad152) Ag.length co30) Ag) ∧ Aside0 (Kd.R (Kd.int .i64) 3 w' w.heap.size (fun k_=>some k_ ≠ ((.slice (some ad152) Ag.length co30) : Value).ownBlock) (.slice Ao23 Ah.length Ai) Ah) ∧ Aside0 (w'.heap[gb141]? = some (.cells #[.int .i64 a0_0,.int .i64 a0_1,(.slice A0_2 l0_2.length c0_2),.int .i64 a0_3,.int .u32 a0_4] 25 (0,0))) ∧ Aside0 (Below w.heap.size w w'))
                    case atStart=>exact ⟨(((rd Ag Aa) == (rd Ag Ac))),(0),(by first|rfl|(simp;done)|(simp [*];done)),(by first|rfl|(simp;done)|(simp [*];done)),H',⟨Nat.le_refl _⟩,⟨by (try simp only [hl5_1]);(try simp only [hl7_3]);(try simp only [hl7_4]);(with_reducible repeat (first|apply Kd.R_alloc|apply Kd.R_drewN|apply Kd.R_drew));exact Ab.out⟩,⟨by (try simp only [hl5_1]);(try simp only [hl7_3]);(try simp only [hl7_4]);(with_reducible repeat (first|apply Kd.R_alloc|apply Kd.R_drewN|apply Kd.R_drew));exact Af.out⟩,⟨by (try simp only [hl5_1]);(try simp only [hl7_3]);(try simp only [hl7_4]);(with_reducible repeat (first|refine blk_drewN ?_ _|refine blk_drew ?_|refine blk_alloc ?_ _));exact BK141.out⟩,⟨by repeat (first|(with_reducible first|exact HB.out|apply below_alloc|apply pw_below_drewN|apply below_drew1|refine below_set ?_ GE141.out)|exact HB.out)⟩⟩
                    case round =>
                     clear H'
                     try clear c1
                     try clear p1
                     try clear q1
                     try clear hx1
                     try clear c2
                     try clear p2
                     try clear c3
                     try clear c3b0
                     try clear c3b1
                     try clear c4
                     try clear c4b0
                     try clear c4b1
                     try clear p6
                     try clear c10
                     try clear c10b0
                     try clear c11
                     try clear c11b0
                     try clear c12
                     try clear c12b0
                     try clear c14
                     try clear c14b0
                     try clear p14
                     try clear q14
                     try clear hx14
                     try clear p15
                     try clear q15
                     try clear hx15
                     try clear hf15
                     try clear c18
                     try clear c18b0
                     try clear c18b1
                     try clear c19
                     try clear c19b0
                     try clear c19b1
                     try clear c24
                     try clear c24b0
                     try clear c25
                     try clear c25b0
                     try clear c26
                     try clear c26b0
                     try clear c27
                     try clear c27b0
                     try clear c28
                     try clear c28b0
                     try clear c29
                     try clear c29b0
                     try clear hcz20_0
                     try clear hcz20_1
                     try clear hcz20_2
                     try clear hcz20_3
                     try clear hcz20_4
                     try clear hcz31_0
                     try clear hcz31_1
                     try clear hcz31_2
                     try clear hcz31_3
                     try clear hcz31_4
                     try clear Al
                     try clear Am
                     try clear An
                     try clear Ao
                     try clear Ap
                     try clear hfz20_0
                     try clear hfz20_1
                     try clear hfz20_2
                     try clear hfz20_3
                     try clear hfz20_4
                     try clear hfz31_0
                     try clear hfz31_1
                     try clear hfz31_2
                     try clear hfz31_3
                     try clear hfz31_4
                     try clear Aq
                     try clear Ar
                     try clear As
                     try clear At
                     try clear Au
                     try clear hx145_0
                     try clear hx152_0
                     try clear hx153_0
                     try clear hx15_0
                     try clear p1
                     try clear p14
                     try clear p145
                     try clear p15
                     try clear p152
                     try clear p153
                     try clear p2
                     try clear p6
                     try clear q1
                     try clear q14
                     try clear q145
                     try clear q15
                     try clear q152
                     try clear q153
                     obtain ⟨x10_5,Ae,rfl,rfl,HA,HK5,Ab,Af,BK141,HB⟩:=hrel
                     cases gk with
                     | zero=>exact absurd HA.out (by simp [least_parts.l4])
                     | succ k5 =>
                      have H:=HA.out
                      clear HA
                      simp only [least_parts.l4] at H
                      by_cases c32 : Ae < a0_1
                      ·rw [if_pos c32] at H
                       have c32b0 : decide (Ae < a0_1) = true:=decide_eq_true c32
                       clear c32
                       by_cases c33 : x10_5 = true
                       ·subst c33
                        have H1 : (if 0 ≤ Aa then (if Aa < (l0_2.length : Int) then (if 0 ≤ Ae then (if Ae < ((rd_L1 l0_2 Aa).length : Int) then (if 0 ≤ (rd (rd_L1 l0_2 Aa) Ae) then (if (rd (rd_L1 l0_2 Aa) Ae) < (Ag.length : Int) then (if 0 ≤ Ac then (if Ac < (l0_2.length : Int) then (if Ae < ((rd_L1 l0_2 Ac).length : Int) then (if 0 ≤ (rd (rd_L1 l0_2 Ac) Ae) then (if (rd (rd_L1 l0_2 Ac) Ae) < (Ag.length : Int) then (least_parts.l4 k5 Ag Ah Aa Ac ((rd Ag (rd (rd_L1 l0_2 Aa) Ae)) == (rd Ag (rd (rd_L1 l0_2 Ac) Ae))) (Ak.length : Int) Aa (wrap64 (Aa + 1)) Ac a0_1 (wrap64 (Ae + 1)) a0_0 a0_1 l0_2 a0_3 a0_4) else (none)) else (none)) else (none)) else (none)) else (none)) else (none)) else (none)) else (none)) else (none)) else (none)) else (none)) = some r:=by rw [if_pos rfl] at H;exact H
                        clear H
                        have H:=H1
                        clear H1
                        by_cases c34 : 0 ≤ Aa
                        ·rw [if_pos c34] at H
                         have c34b0 : decide (0 ≤ Aa) = true:=decide_eq_true c34
                         clear c34
                         by_cases c35 : Aa < (l0_2.length : Int)
                         ·rw [if_pos c35] at H
                          have c35b0 : decide (Aa < (l0_2.length : Int)) = true:=decide_eq_true c35
                          (try (have c35b0h:=c35b0;simp only [hl5_1,hl7_3,hl7_4] at c35b0h))
                          clear c35
                          by_cases c36 : 0 ≤ Ae
                          ·rw [if_pos c36] at H
                           have c36b0 : decide (0 ≤ Ae) = true:=decide_eq_true c36
                           clear c36
                           by_cases c37 : Ae < ((rd_L1 l0_2 Aa).length : Int)
                           ·rw [if_pos c37] at H
                            have c37b0 : decide (Ae < ((rd_L1 l0_2 Aa).length : Int)) = true:=decide_eq_true c37
                            (try (have c37b0h:=c37b0;simp only [hl5_1,hl7_3,hl7_4] at c37b0h))
                            clear c37
                            by_cases c38 : 0 ≤ (rd (rd_L1 l0_2 Aa) Ae)
                            ·rw [if_pos c38] at H
                             have c38b0 : decide (0 ≤ (rd (rd_L1 l0_2 Aa) Ae)) = true:=decide_eq_true c38
                             clear c38
                             by_cases c39 : (rd (rd_L1 l0_2 Aa) Ae) < (Ag.length : Int)
                             ·rw [if_pos c39] at H
                              have c39b0 : decide ((rd (rd_L1 l0_2 Aa) Ae) < (Ag.length : Int)) = true:=decide_eq_true c39
                              (try (have c39b0h:=c39b0;simp only [hl5_1,hl7_3,hl7_4] at c39b0h))
                              clear c39
                              by_cases c40 : 0 ≤ Ac
                              ·rw [if_pos c40] at H
                               have c40b0 : decide (0 ≤ Ac) = true:=decide_eq_true c40
                               clear c40
                               by_cases c41 : Ac < (l0_2.length : Int)
                               ·rw [if_pos c41] at H
                                have c41b0 : decide (Ac < (l0_2.length : Int)) = true:=decide_eq_true c41
                                (try (have c41b0h:=c41b0;simp only [hl5_1,hl7_3,hl7_4] at c41b0h))
                                clear c41
                                by_cases c42 : Ae < ((rd_L1 l0_2 Ac).length : Int)
                                ·rw [if_pos c42] at H
                                 have c42b0 : decide (Ae < ((rd_L1 l0_2 Ac).length : Int)) = true:=decide_eq_true c42
                                 (try (have c42b0h:=c42b0;simp only [hl5_1,hl7_3,hl7_4] at c42b0h))
                                 clear c42
                                 by_cases c43 : 0 ≤ (rd (rd_L1 l0_2 Ac) Ae)
                                 ·rw [if_pos c43] at H
                                  have c43b0 : decide (0 ≤ (rd (rd_L1 l0_2 Ac) Ae)) = true:=decide_eq_true c43
                                  clear c43
                                  by_cases c44 : (rd (rd_L1 l0_2 Ac) Ae) < (Ag.length : Int)
                                  ·rw [if_pos c44] at H
                                   have c44b0 : decide ((rd (rd_L1 l0_2 Ac) Ae) < (Ag.length : Int)) = true:=decide_eq_true c44
                                   (try (have c44b0h:=c44b0;simp only [hl5_1,hl7_3,hl7_4] at c44b0h))
                                   clear c44
                                   have H':=Aside0.mk H
                                   clear H
                                   have hcz45_0 : wr.cell? ⟨gb141,0,none⟩ = some (.int .i64 a0_0):=(blk_cell BK141.out 0).trans rfl
                                   have hcz45_1 : wr.cell? ⟨gb141,1,none⟩ = some (.int .i64 a0_1):=(blk_cell BK141.out 1).trans rfl
                                   have hcz45_2 : wr.cell? ⟨gb141,2,none⟩ = some (.slice A0_2 l0_2.length c0_2):=(blk_cell BK141.out 2).trans rfl
                                   have hcz45_3 : wr.cell? ⟨gb141,3,none⟩ = some (.int .i64 a0_3):=(blk_cell BK141.out 3).trans rfl
                                   have hcz45_4 : wr.cell? ⟨gb141,4,none⟩ = some (.int .u32 a0_4):=(blk_cell BK141.out 4).trans rfl
                                   have hfz45_0:=blk_frozen BK141.out 0
                                   have hfz45_1:=blk_frozen BK141.out 1
                                   have hfz45_2:=blk_frozen BK141.out 2
                                   have hfz45_3:=blk_frozen BK141.out 3
                                   have hfz45_4:=blk_frozen BK141.out 4
                                   have p154 : 0 ≤ (Aa : Int):=of_decide_eq_true qAs7_4
                                   have q154 : Aa < (l0_2.length : Int):=of_decide_eq_true qAs7_4
                                   obtain ⟨ad154,A154_0,c154_0,e154,hx154_0,hl154_0,hi154_0⟩:=at_L1 HR0_2.out Aa p154 q154
                                   cases e154
                                   replace hx154_0:=(HB.out.cell (World.block_lt_of_cell? w _ hx154_0)).trans hx154_0
                                   have HR154_0:=Aside0.mk hi154_0
                                   have HC154_0:=Aside0.mk hl154_0
                                   clear hi154_0 hl154_0
                                   replace p154:=eq_true p154
                                   replace q154:=eq_true q154
                                   have p155 : 0 ≤ (Ae : Int):=of_decide_eq_true qAs7_4
                                   have q155 : Ae < ((rd_L1 l0_2 Aa).length : Int):=of_decide_eq_true qAs7_4
                                   obtain ⟨ad155,e155,hx155_0⟩:=Kd.at_int HR154_0.out Ae p155 q155
                                   cases e155
                                   replace hx155_0:=(HB.out.cell (World.block_lt_of_cell? w _ hx155_0)).trans hx155_0
                                   replace p155:=eq_true p155
                                   replace q155:=eq_true q155
                                   have p156 : 0 ≤ ((rd (rd_L1 l0_2 Aa) Ae) : Int):=of_decide_eq_true qAs7_4
                                   have q156 : (rd (rd_L1 l0_2 Aa) Ae) < (Ag.length : Int):=of_decide_eq_true qAs7_4
                                   obtain ⟨ad156,e156,hx156_0⟩:=Kd.at_int (Kd.R_reads' Ab.out).2.2 (rd (rd_L1 l0_2 Aa) Ae) p156 q156
                                   obtain rfl : ad152 = ad156:=(by injection e156)
                                   replace p156:=eq_true p156
                                   replace q156:=eq_true q156
                                   have p157 : 0 ≤ (Ac : Int):=of_decide_eq_true qAs7_4
                                   have q157 : Ac < (l0_2.length : Int):=of_decide_eq_true qAs7_4
                                   obtain ⟨ad157,A157_0,c157_0,e157,hx157_0,hl157_0,hi157_0⟩:=at_L1 HR0_2.out Ac p157 q157
                                   obtain rfl : ad154 = ad157:=(by injection e157)
                                   replace hx157_0:=(HB.out.cell (World.block_lt_of_cell? w _ hx157_0)).trans hx157_0
                                   have HR157_0:=Aside0.mk hi157_0
                                   have HC157_0:=Aside0.mk hl157_0
                                   clear hi157_0 hl157_0
                                   replace p157:=eq_true p157
                                   replace q157:=eq_true q157
                                   have p158 : 0 ≤ (Ae : Int):=of_decide_eq_true qAs7_4
                                   have q158 : Ae < ((rd_L1 l0_2 Ac).length : Int):=of_decide_eq_true qAs7_4
                                   obtain ⟨ad158,e158,hx158_0⟩:=Kd.at_int HR157_0.out Ae p158 q158
                                   cases e158
                                   replace hx158_0:=(HB.out.cell (World.block_lt_of_cell? w _ hx158_0)).trans hx158_0
                                   replace p158:=eq_true p158
                                   replace q158:=eq_true q158
                                   have p159 : 0 ≤ ((rd (rd_L1 l0_2 Ac) Ae) : Int):=of_decide_eq_true qAs7_4
                                   have q159 : (rd (rd_L1 l0_2 Ac) Ae) < (Ag.length : Int):=of_decide_eq_true qAs7_4
                                   obtain ⟨ad159,e159,hx159_0⟩:=Kd.at_int (Kd.R_reads' Ab.out).2.2 (rd (rd_L1 l0_2 Ac) Ae) p159 q159
                                   obtain rfl : ad152 = ad159:=(by injection e159)
                                   replace p159:=eq_true p159
                                   replace q159:=eq_true q159
                                   go_wp2
                                   repeat (go_quiet (fail);try go_wp2)
                                   go_roundg k5
                                   case measure=>have:=HK1.out;have:=HK2.out;have:=HK3.out;have:=HK4.out;have:=HK5.out;omega
                                   case rel=>exact ⟨(((rd Ag (rd (rd_L1 l0_2 Aa) Ae)) == (rd Ag (rd (rd_L1 l0_2 Ac) Ae)))),(wrap64 (Ae + 1)),(by first|rfl|(simp;done)|(simp [*];done)),(by first|rfl|(simp;done)|(simp [*];done)),H',⟨by have:=HK1.out;have:=HK2.out;have:=HK3.out;have:=HK4.out;have:=HK5.out;omega⟩,⟨by (try simp only [hl5_1]);(try simp only [hl7_3]);(try simp only [hl7_4]);(with_reducible repeat (first|apply Kd.R_alloc|apply Kd.R_drewN|apply Kd.R_drew));exact Ab.out⟩,⟨by (try simp only [hl5_1]);(try simp only [hl7_3]);(try simp only [hl7_4]);(with_reducible repeat (first|apply Kd.R_alloc|apply Kd.R_drewN|apply Kd.R_drew));exact Af.out⟩,⟨by (try simp only [hl5_1]);(try simp only [hl7_3]);(try simp only [hl7_4]);(with_reducible repeat (first|refine blk_drewN ?_ _|refine blk_drew ?_|refine blk_alloc ?_ _));exact BK141.out⟩,⟨by repeat (first|(with_reducible first|exact HB.out|apply below_alloc|apply pw_below_drewN|apply below_drew1|refine below_set ?_ GE141.out)|exact HB.out)⟩⟩
                                  ·rw [if_neg c44] at H
                                   exact absurd H (by simp)
                                 ·rw [if_neg c43] at H
                                  exact absurd H (by simp)
                                ·rw [if_neg c42] at H
                                 exact absurd H (by simp)
                               ·rw [if_neg c41] at H
                                exact absurd H (by simp)
                              ·rw [if_neg c40] at H
                               exact absurd H (by simp)
                             ·rw [if_neg c39] at H
                              exact absurd H (by simp)
                            ·rw [if_neg c38] at H
                             exact absurd H (by simp)
                           ·rw [if_neg c37] at H
                            exact absurd H (by simp)
                          ·rw [if_neg c36] at H
                           exact absurd H (by simp)
                         ·rw [if_neg c35] at H
                          exact absurd H (by simp)
                        ·rw [if_neg c34] at H
                         exact absurd H (by simp)
                       ·replace c33:=Bool.eq_false_iff.mpr c33
                        subst c33
                        have H1 : (least_parts.l4 k5 Ag Ah Aa Ac false (Ak.length : Int) Aa (wrap64 (Aa + 1)) Ac a0_1 (wrap64 (Ae + 1)) a0_0 a0_1 l0_2 a0_3 a0_4) = some r:=by rw [if_neg (show ¬ (false = true) by decide)] at H;exact H
                        clear H
                        have H:=H1
                        clear H1
                        have H':=Aside0.mk H
                        clear H
                        go_wp2
                        repeat (go_quiet (fail);try go_wp2)
                        go_roundg k5
                        case measure=>have:=HK1.out;have:=HK2.out;have:=HK3.out;have:=HK4.out;have:=HK5.out;omega
                        case rel=>exact ⟨(false),(wrap64 (Ae + 1)),(by first|rfl|(simp;done)|(simp [*];done)),(by first|rfl|(simp;done)|(simp [*];done)),H',⟨by have:=HK1.out;have:=HK2.out;have:=HK3.out;have:=HK4.out;have:=HK5.out;omega⟩,⟨by (try simp only [hl5_1]);(try simp only [hl7_3]);(try simp only [hl7_4]);(with_reducible repeat (first|apply Kd.R_alloc|apply Kd.R_drewN|apply Kd.R_drew));exact Ab.out⟩,⟨by (try simp only [hl5_1]);(try simp only [hl7_3]);(try simp only [hl7_4]);(with_reducible repeat (first|apply Kd.R_alloc|apply Kd.R_drewN|apply Kd.R_drew));exact Af.out⟩,⟨by (try simp only [hl5_1]);(try simp only [hl7_3]);(try simp only [hl7_4]);(with_reducible repeat (first|refine blk_drewN ?_ _|refine blk_drew ?_|refine blk_alloc ?_ _));exact BK141.out⟩,⟨by repeat (first|(with_reducible first|exact HB.out|apply below_alloc|apply pw_below_drewN|apply below_drew1|refine below_set ?_ GE141.out)|exact HB.out)⟩⟩
                      ·rw [if_neg c32] at H
                       have c32b0 : decide (Ae < a0_1) = false:=decide_eq_false c32
                       clear c32
                       by_cases c46 : x10_5 = true
                       ·subst c46
                        have H1 : (if 0 ≤ Aa then (if Aa < (Ah.length : Int) then (least_parts.l2 k5 Ag (Ah.set (Aa : Int).toNat Ac) (Ak.length : Int) (wrap64 (Aa + 1)) a0_0 a0_1 l0_2 a0_3 a0_4) else (none)) else (none)) = some r:=by rw [if_pos rfl] at H;exact H
                        clear H
                        have H:=H1
                        clear H1
                        by_cases c47 : 0 ≤ Aa
                        ·rw [if_pos c47] at H
                         have c47b0 : decide (0 ≤ Aa) = true:=decide_eq_true c47
                         clear c47
                         by_cases c48 : Aa < (Ah.length : Int)
                         ·rw [if_pos c48] at H
                          have c48b0 : decide (Aa < (Ah.length : Int)) = true:=decide_eq_true c48
                          (try (have c48b0h:=c48b0;simp only [hl5_1,hl7_3,hl7_4] at c48b0h))
                          clear c48
                          obtain ⟨y160,hy160⟩ : ∃ y_ : List Int,y_ = (Ah.set (Aa : Int).toNat Ac):=⟨_,rfl⟩
                          replace H : (least_parts.l2 k5 Ag y160 (Ak.length : Int) (wrap64 (Aa + 1)) a0_0 a0_1 l0_2 a0_3 a0_4) = some r:=by first|(rw [hy160];with_reducible exact H)|(have H2_:=(Option.bind_some _ _).symm.trans H;rw [hy160];with_reducible exact H2_)|(have H2_:=(Option.bind_some _ _).symm.trans H;with_reducible exact H2_)|with_reducible exact H|(rw [hy160];exact H)|exact H
                          have Ny160:=Aside0.mk hy160
                          clear hy160
                          have H':=Aside0.mk H
                          clear H
                          have p49 : 0 ≤ (Aa : Int):=of_decide_eq_true qAs7_4
                          have q49 : (Aa : Int) < ((Ah.length : Int) : Int):=of_decide_eq_true qAs7_4
                          obtain ⟨go49,co49,eo49,gb49,gl49,cl49,HG49⟩:=Kd.R_form Af.out (by omega)
                          (first|cases eo49|(injection eo49 with ea_ en_ ec_;(first|subst ea_|(injection ea_ with ea_;subst ea_));subst ec_;clear en_))
                          have GB49:=Aside0.mk gb49
                          have GG49:=Aside0.mk HG49
                          clear gb49 gl49 HG49
                          obtain ⟨hx49_0,hf49_0⟩:=Kd.R_celln 0 Af.out (Aa : Int) p49 q49
                          replace p49:=eq_true p49
                          replace q49:=eq_true q49
                          have HP50:=Kd.R_putg Af.out (Aa : Int) Ac
                          go_wp2_with (first|((with_reducible refine gate_store (t:=3) (p:=88) rfl ?_);(try (rw [drewN_self wr];generalize hq_ : World.drewN wr _ = wr;(try (have z_:=(congrArg (fun W_=>World.frozen? W_ _) hq_).symm.trans hf49_0;clear hf49_0;have hf49_0:=z_;clear z_));(try (have z_:=(congrArg (fun W_=>World.cell? W_ _) hq_).symm.trans hx49_0;clear hx49_0;have hx49_0:=z_;clear z_));have n0_:=Aside0.mk (Kd.R_at hq_ Ab.out);have n1_:=Aside0.mk (Kd.R_at hq_ Af.out);have n2_:=Aside0.mk (blk_at hq_ BK141.out);have n3_:=Aside0.mk (below_at hq_ HB.out);clear hq_ Ab Af BK141 HB;have Ab:=n0_;have Af:=n1_;have BK141:=n2_;have HB:=n3_;clear n0_ n1_ n2_ n3_;(try (have HP50:=Kd.R_putg Af.out (Aa : Int) Ac))));refine store_event (t:=3) (p:=88) (v:=?vo_w51) (w1:=(wr.setCell ⟨go49,(Aa : Int).toNat,none⟩ (.int .i64 Ac))) ?hg ?ho ?hn ?hr ?_;(case ho=>rfl);(case hg=>rfl);(case hn=>rfl);(case hr=>first|(go_simp;done)|(go_simp;rfl));intro w51 hw;have hg : wr.grownBy w51 (some go49):=(by rw [hw];exact HP50.2);have hp_ : Kd.R (Kd.int .i64) 3 w51 w.heap.size (fun k_=>some k_ ≠ (.slice (some ad152) Ag.length co30 : Value).ownBlock) (.slice (some ⟨go49,0,none⟩) Ah.length Ai) y160:=(by rw [hw,Ny160.out];exact HP50.1);clear HP50;have n0_:=Aside0.mk (Kd.R_after (v:=(.slice (some ⟨go49,0,none⟩) Ah.length Ai)) (v1:=(.slice (some ⟨go49,0,none⟩) Ah.length Ai)) (ok:=(fun _=>True)) (by (with_reducible repeat (first|apply Kd.R_alloc|apply Kd.R_drewN|apply Kd.R_drew));exact Kd.R_mono Ab.out (by first|exact fun _ hk=>⟨trivial,hk⟩|(intro _ hk;(repeat' apply And.intro) <;> first|exact hk|exact hk.1|exact hk.2|exact hk.1.1|exact hk.1.2|exact hk.2.1|exact hk.2.2|exact hk.1.1.1|exact hk.1.1.2|exact hk.1.2.1|exact hk.1.2.2|exact hk.2.1.1|exact hk.2.1.2|exact hk.2.2.1|exact hk.2.2.2))) hg (.inl rfl));have n1_:=Aside0.mk (hp_);have n2_:=Aside0.mk (blk_grown (g:=gb141) (o:=.cells #[.int .i64 a0_0,.int .i64 a0_1,.slice A0_2 l0_2.length c0_2,.int .i64 a0_3,.int .u32 a0_4] 25 (0,0)) (qDs7_ BK141.out) hg (Kd.R_ne Af.out BK141.out (by decide)));have n3_:=Aside0.mk ((by rw [hw];exact below_set (HB.out) GB49.out : Below w.heap.size w w51));clear Ab;clear Af;clear BK141;clear HB;have Ab:=n0_;have Af:=n1_;have BK141:=n2_;have HB:=n3_;clear n0_ n1_ n2_ n3_;clear hg hw hp_))
                          repeat (go_quiet (first|((with_reducible refine gate_store (t:=3) (p:=88) rfl ?_);(try (rw [drewN_self wr];generalize hq_ : World.drewN wr _ = wr;(try (have z_:=(congrArg (fun W_=>World.frozen? W_ _) hq_).symm.trans hf49_0;clear hf49_0;have hf49_0:=z_;clear z_));(try (have z_:=(congrArg (fun W_=>World.cell? W_ _) hq_).symm.trans hx49_0;clear hx49_0;have hx49_0:=z_;clear z_));have n0_:=Aside0.mk (Kd.R_at hq_ Ab.out);have n1_:=Aside0.mk (Kd.R_at hq_ Af.out);have n2_:=Aside0.mk (blk_at hq_ BK141.out);have n3_:=Aside0.mk (below_at hq_ HB.out);clear hq_ Ab Af BK141 HB;have Ab:=n0_;have Af:=n1_;have BK141:=n2_;have HB:=n3_;clear n0_ n1_ n2_ n3_;(try (have HP50:=Kd.R_putg Af.out (Aa : Int) Ac))));refine store_event (t:=3) (p:=88) (v:=?vo_w51) (w1:=(wr.setCell ⟨go49,(Aa : Int).toNat,none⟩ (.int .i64 Ac))) ?hg ?ho ?hn ?hr ?_;(case ho=>rfl);(case hg=>rfl);(case hn=>rfl);(case hr=>first|(go_simp;done)|(go_simp;rfl));intro w51 hw;have hg : wr.grownBy w51 (some go49):=(by rw [hw];exact HP50.2);have hp_ : Kd.R (Kd.int .i64) 3 w51 w.heap.size (fun k_=>some k_ ≠ (.slice (some ad152) Ag.length co30 : Value).ownBlock) (.slice (some ⟨go49,0,none⟩) Ah.length Ai) y160:=(by rw [hw,Ny160.out];exact HP50.1);clear HP50;have n0_:=Aside0.mk (Kd.R_after (v:=(.slice (some ⟨go49,0,none⟩) Ah.length Ai)) (v1:=(.slice (some ⟨go49,0,none⟩) Ah.length Ai)) (ok:=(fun _=>True)) (by (with_reducible repeat (first|apply Kd.R_alloc|apply Kd.R_drewN|apply Kd.R_drew));exact Kd.R_mono Ab.out (by first|exact fun _ hk=>⟨trivial,hk⟩|(intro _ hk;(repeat' apply And.intro) <;> first|exact hk|exact hk.1|exact hk.2|exact hk.1.1|exact hk.1.2|exact hk.2.1|exact hk.2.2|exact hk.1.1.1|exact hk.1.1.2|exact hk.1.2.1|exact hk.1.2.2|exact hk.2.1.1|exact hk.2.1.2|exact hk.2.2.1|exact hk.2.2.2))) hg (.inl rfl));have n1_:=Aside0.mk (hp_);have n2_:=Aside0.mk (blk_grown (g:=gb141) (o:=.cells #[.int .i64 a0_0,.int .i64 a0_1,.slice A0_2 l0_2.length c0_2,.int .i64 a0_3,.int .u32 a0_4] 25 (0,0)) (qDs7_ BK141.out) hg (Kd.R_ne Af.out BK141.out (by decide)));have n3_:=Aside0.mk ((by rw [hw];exact below_set (HB.out) GB49.out : Below w.heap.size w w51));clear Ab;clear Af;clear BK141;clear HB;have Ab:=n0_;have Af:=n1_;have BK141:=n2_;have HB:=n3_;clear n0_ n1_ n2_ n3_;clear hg hw hp_));try go_wp2_with (first|((with_reducible refine gate_store (t:=3) (p:=88) rfl ?_);(try (rw [drewN_self wr];generalize hq_ : World.drewN wr _ = wr;(try (have z_:=(congrArg (fun W_=>World.frozen? W_ _) hq_).symm.trans hf49_0;clear hf49_0;have hf49_0:=z_;clear z_));(try (have z_:=(congrArg (fun W_=>World.cell? W_ _) hq_).symm.trans hx49_0;clear hx49_0;have hx49_0:=z_;clear z_));have n0_:=Aside0.mk (Kd.R_at hq_ Ab.out);have n1_:=Aside0.mk (Kd.R_at hq_ Af.out);have n2_:=Aside0.mk (blk_at hq_ BK141.out);have n3_:=Aside0.mk (below_at hq_ HB.out);clear hq_ Ab Af BK141 HB;have Ab:=n0_;have Af:=n1_;have BK141:=n2_;have HB:=n3_;clear n0_ n1_ n2_ n3_;(try (have HP50:=Kd.R_putg Af.out (Aa : Int) Ac))));refine store_event (t:=3) (p:=88) (v:=?vo_w51) (w1:=(wr.setCell ⟨go49,(Aa : Int).toNat,none⟩ (.int .i64 Ac))) ?hg ?ho ?hn ?hr ?_;(case ho=>rfl);(case hg=>rfl);(case hn=>rfl);(case hr=>first|(go_simp;done)|(go_simp;rfl));intro w51 hw;have hg : wr.grownBy w51 (some go49):=(by rw [hw];exact HP50.2);have hp_ : Kd.R (Kd.int .i64) 3 w51 w.heap.size (fun k_=>some k_ ≠ (.slice (some ad152) Ag.length co30 : Value).ownBlock) (.slice (some ⟨go49,0,none⟩) Ah.length Ai) y160:=(by rw [hw,Ny160.out];exact HP50.1);clear HP50;have n0_:=Aside0.mk (Kd.R_after (v:=(.slice (some ⟨go49,0,none⟩) Ah.length Ai)) (v1:=(.slice (some ⟨go49,0,none⟩) Ah.length Ai)) (ok:=(fun _=>True)) (by (with_reducible repeat (first|apply Kd.R_alloc|apply Kd.R_drewN|apply Kd.R_drew));exact Kd.R_mono Ab.out (by first|exact fun _ hk=>⟨trivial,hk⟩|(intro _ hk;(repeat' apply And.intro) <;> first|exact hk|exact hk.1|exact hk.2|exact hk.1.1|exact hk.1.2|exact hk.2.1|exact hk.2.2|exact hk.1.1.1|exact hk.1.1.2|exact hk.1.2.1|exact hk.1.2.2|exact hk.2.1.1|exact hk.2.1.2|exact hk.2.2.1|exact hk.2.2.2))) hg (.inl rfl));have n1_:=Aside0.mk (hp_);have n2_:=Aside0.mk (blk_grown (g:=gb141) (o:=.cells #[.int .i64 a0_0,.int .i64 a0_1,.slice A0_2 l0_2.length c0_2,.int .i64 a0_3,.int .u32 a0_4] 25 (0,0)) (qDs7_ BK141.out) hg (Kd.R_ne Af.out BK141.out (by decide)));have n3_:=Aside0.mk ((by rw [hw];exact below_set (HB.out) GB49.out : Below w.heap.size w w51));clear Ab;clear Af;clear BK141;clear HB;have Ab:=n0_;have Af:=n1_;have BK141:=n2_;have HB:=n3_;clear n0_ n1_ n2_ n3_;clear hg hw hp_)))
                          (try simp only [← hl7_3,← hl7_4])
                          go_roundg k5
                          case measure=>have:=HK1.out;have:=HK2.out;have:=HK3.out;have:=HK4.out;have:=HK5.out;omega
                          case rel=>exact ⟨(y160),(wrap64 (Aa + 1)),(by first|rfl|(simp;done)|(simp [*];done)),H',⟨by have:=HK1.out;have:=HK2.out;have:=HK3.out;have:=HK4.out;have:=HK5.out;omega⟩,⟨by (try simp only [hl5_1]);(try simp only [hl7_3]);(try simp only [hl7_4]);(with_reducible repeat (first|apply Kd.R_alloc|apply Kd.R_drewN|apply Kd.R_drew));exact Kd.R_mono Ab.out (fun _ hk=>hk.2)⟩,⟨by (try simp only [hl5_1]);(try simp only [hl7_3]);(try simp only [hl7_4]);(with_reducible repeat (first|apply Kd.R_alloc|apply Kd.R_drewN|apply Kd.R_drew));exact Af.out⟩,⟨by (try simp only [hl5_1]);(try simp only [hl7_3]);(try simp only [hl7_4]);(with_reducible repeat (first|refine blk_drewN ?_ _|refine blk_drew ?_|refine blk_alloc ?_ _));exact BK141.out⟩,⟨by repeat (first|(with_reducible first|exact HB.out|apply below_alloc|apply pw_below_drewN|apply below_drew1|refine below_set ?_ GE141.out)|exact HB.out)⟩⟩
                         ·rw [if_neg c48] at H
                          exact absurd H (by simp)
                        ·rw [if_neg c47] at H
                         exact absurd H (by simp)
                       ·replace c46:=Bool.eq_false_iff.mpr c46
                        subst c46
                        have H1 : (least_parts.l3 k5 Ag Ah Aa (Ak.length : Int) Aa (wrap64 (Aa + 1)) (wrap64 (Ac + 1)) a0_0 a0_1 l0_2 a0_3 a0_4) = some r:=by rw [if_neg (show ¬ (false = true) by decide)] at H;exact H
                        clear H
                        have H:=H1
                        clear H1
                        have H':=Aside0.mk H
                        clear H
                        go_wp2
                        repeat (go_quiet (fail);try go_wp2)
                        (try simp only [← hl7_4])
                        go_roundg k5
                        case measure=>have:=HK1.out;have:=HK2.out;have:=HK3.out;have:=HK4.out;have:=HK5.out;omega
                        case rel=>exact ⟨(Ah),(wrap64 (Ac + 1)),(by first|rfl|(simp;done)|(simp [*];done)),H',⟨by have:=HK1.out;have:=HK2.out;have:=HK3.out;have:=HK4.out;have:=HK5.out;omega⟩,⟨by (try simp only [hl5_1]);(try simp only [hl7_3]);(try simp only [hl7_4]);(with_reducible repeat (first|apply Kd.R_alloc|apply Kd.R_drewN|apply Kd.R_drew));exact Ab.out⟩,⟨by (try simp only [hl5_1]);(try simp only [hl7_3]);(try simp only [hl7_4]);(with_reducible repeat (first|apply Kd.R_alloc|apply Kd.R_drewN|apply Kd.R_drew));exact Af.out⟩,⟨by (try simp only [hl5_1]);(try simp only [hl7_3]);(try simp only [hl7_4]);(with_reducible repeat (first|refine blk_drewN ?_ _|refine blk_drew ?_|refine blk_alloc ?_ _));exact BK141.out⟩,⟨by repeat (first|(with_reducible first|exact HB.out|apply below_alloc|apply pw_below_drewN|apply below_drew1|refine below_set ?_ GE141.out)|exact HB.out)⟩⟩
                   ·rw [if_neg c29] at H
                    exact absurd H (by simp)
                  ·rw [if_neg c28] at H
                   exact absurd H (by simp)
                 ·rw [if_neg c27] at H
                  exact absurd H (by simp)
                ·rw [if_neg c26] at H
                 exact absurd H (by simp)
               ·rw [if_neg c25] at H
                have c25b0 : decide (Ac < (wrap64 (Aa + 1))) = false:=decide_eq_false c25
                clear c25
                have H':=Aside0.mk H
                clear H
                go_wp2
                repeat (go_quiet (fail);try go_wp2)
                (try simp only [← hl7_3,← hl7_4])
                go_roundg k4
                case measure=>have:=HK1.out;have:=HK2.out;have:=HK3.out;have:=HK4.out;omega
                case rel=>exact ⟨(Ah),(wrap64 (Aa + 1)),(by first|rfl|(simp;done)|(simp [*];done)),H',⟨by have:=HK1.out;have:=HK2.out;have:=HK3.out;have:=HK4.out;omega⟩,⟨by (try simp only [hl5_1]);(try simp only [hl7_3]);(try simp only [hl7_4]);(with_reducible repeat (first|apply Kd.R_alloc|apply Kd.R_drewN|apply Kd.R_drew));exact Ab.out⟩,⟨by (try simp only [hl5_1]);(try simp only [hl7_3]);(try simp only [hl7_4]);(with_reducible repeat (first|apply Kd.R_alloc|apply Kd.R_drewN|apply Kd.R_drew));exact Af.out⟩,⟨by (try simp only [hl5_1]);(try simp only [hl7_3]);(try simp only [hl7_4]);(with_reducible repeat (first|refine blk_drewN ?_ _|refine blk_drew ?_|refine blk_alloc ?_ _));exact BK141.out⟩,⟨by repeat (first|(with_reducible first|exact HB.out|apply below_alloc|apply pw_below_drewN|apply below_drew1|refine below_set ?_ GE141.out)|exact HB.out)⟩⟩
            ·rw [if_neg c24] at H
             have c24b0 : decide (Aa < (Ak.length : Int)) = false:=decide_eq_false c24
             (try (have c24b0h:=c24b0;simp only [hl5_1,hl7_3] at c24b0h))
             clear c24
             replace H:=Option.bind_eq_some_iff.mp H
             obtain ⟨t151,A520,H⟩:=H
             replace H : (if t151 = true then (some Aj) else (least_parts.l1 k3 Aj a0_0 a0_1 l0_2 a0_3 a0_4)) = some r:=H
             have A52:=Aside0.mk A520
             clear A520
             by_cases c53 : t151 = true
             ·subst c53
              have H1 : (some Aj) = some r:=by rw [if_pos rfl] at H;exact H
              clear H
              have H:=H1
              clear H1
              obtain rfl:=Option.some.inj H
              obtain ⟨Ao54,co54,eo54⟩:=Kd.R_slice Ab.out
              subst eo54
              go_wp2_with (first|(go_at_call 38;(with_reducible refine (slices_Equal_int_int.calls k3 _ _ Aj _ _ Ag true _ ?side1 ?side2 ?side3 ?side4 A52.out).mono ?_);(case side1=>repeat (first|exact (Kd.R_reads' Af.out).2.2|(with_reducible refine Kd.C_alloc ?_ _)|(with_reducible refine Kd.C_drewN ?_ _)|(with_reducible refine Kd.C_drew ?_)));(case side2=>exact (Kd.R_reads' Af.out).2.1);(case side3=>repeat (first|exact (Kd.R_reads' Ab.out).2.2|(with_reducible refine Kd.C_alloc ?_ _)|(with_reducible refine Kd.C_drewN ?_ _)|(with_reducible refine Kd.C_drew ?_)));(case side4=>exact (Kd.R_reads' Ab.out).2.1);rintro e w' ⟨rfl,⟨nd,rfl⟩⟩;(try first|exact ⟨rfl,_,World.drewN_drewN _ _ _⟩|exact ⟨rfl,_,Eq.trans (World.drewN_drewN _ _ _) (congrArg (World.drewN _) (Nat.add_assoc _ _ _))⟩)))
              repeat (go_quiet (first|(go_at_call 38;(with_reducible refine (slices_Equal_int_int.calls k3 _ _ Aj _ _ Ag true _ ?side1 ?side2 ?side3 ?side4 A52.out).mono ?_);(case side1=>repeat (first|exact (Kd.R_reads' Af.out).2.2|(with_reducible refine Kd.C_alloc ?_ _)|(with_reducible refine Kd.C_drewN ?_ _)|(with_reducible refine Kd.C_drew ?_)));(case side2=>exact (Kd.R_reads' Af.out).2.1);(case side3=>repeat (first|exact (Kd.R_reads' Ab.out).2.2|(with_reducible refine Kd.C_alloc ?_ _)|(with_reducible refine Kd.C_drewN ?_ _)|(with_reducible refine Kd.C_drew ?_)));(case side4=>exact (Kd.R_reads' Ab.out).2.1);rintro e w' ⟨rfl,⟨nd,rfl⟩⟩;(try first|exact ⟨rfl,_,World.drewN_drewN _ _ _⟩|exact ⟨rfl,_,Eq.trans (World.drewN_drewN _ _ _) (congrArg (World.drewN _) (Nat.add_assoc _ _ _))⟩)));try go_wp2_with (first|(go_at_call 38;(with_reducible refine (slices_Equal_int_int.calls k3 _ _ Aj _ _ Ag true _ ?side1 ?side2 ?side3 ?side4 A52.out).mono ?_);(case side1=>repeat (first|exact (Kd.R_reads' Af.out).2.2|(with_reducible refine Kd.C_alloc ?_ _)|(with_reducible refine Kd.C_drewN ?_ _)|(with_reducible refine Kd.C_drew ?_)));(case side2=>exact (Kd.R_reads' Af.out).2.1);(case side3=>repeat (first|exact (Kd.R_reads' Ab.out).2.2|(with_reducible refine Kd.C_alloc ?_ _)|(with_reducible refine Kd.C_drewN ?_ _)|(with_reducible refine Kd.C_drew ?_)));(case side4=>exact (Kd.R_reads' Ab.out).2.1);rintro e w' ⟨rfl,⟨nd,rfl⟩⟩;(try first|exact ⟨rfl,_,World.drewN_drewN _ _ _⟩|exact ⟨rfl,_,Eq.trans (World.drewN_drewN _ _ _) (congrArg (World.drewN _) (Nat.add_assoc _ _ _))⟩))))
              go_ret
              exact ⟨_,by first|rfl|(simp [errW_none,errW_some] <;> rfl)|(simp [*,errW_none,errW_some] <;> rfl),by (with_reducible repeat (first|apply Kd.R_alloc|apply Kd.R_drewN|apply Kd.R_drew));exact Kd.R_mono Af.out (fun _ hk=>trivial),by repeat (first|(with_reducible first|exact HB.out|apply below_alloc|apply pw_below_drewN|apply below_drew1|refine below_set ?_ GE141.out)|exact HB.out)⟩
             ·replace c53:=Bool.eq_false_iff.mpr c53
              subst c53
              have H1 : (least_parts.l1 k3 Aj a0_0 a0_1 l0_2 a0_3 a0_4) = some r:=by rw [if_neg (show ¬ (false = true) by decide)] at H;exact H
              clear H
              have H:=H1
              clear H1
              have H':=Aside0.mk H
              clear H
              obtain ⟨Ao55,co55,eo55⟩:=Kd.R_slice Ab.out
              subst eo55
              go_wp2_with (first|(go_at_call 38;(with_reducible refine (slices_Equal_int_int.calls k3 _ _ Aj _ _ Ag false _ ?side1 ?side2 ?side3 ?side4 A52.out).mono ?_);(case side1=>repeat (first|exact (Kd.R_reads' Af.out).2.2|(with_reducible refine Kd.C_alloc ?_ _)|(with_reducible refine Kd.C_drewN ?_ _)|(with_reducible refine Kd.C_drew ?_)));(case side2=>exact (Kd.R_reads' Af.out).2.1);(case side3=>repeat (first|exact (Kd.R_reads' Ab.out).2.2|(with_reducible refine Kd.C_alloc ?_ _)|(with_reducible refine Kd.C_drewN ?_ _)|(with_reducible refine Kd.C_drew ?_)));(case side4=>exact (Kd.R_reads' Ab.out).2.1);rintro e w' ⟨rfl,⟨nd,rfl⟩⟩;(try first|exact ⟨rfl,_,World.drewN_drewN _ _ _⟩|exact ⟨rfl,_,Eq.trans (World.drewN_drewN _ _ _) (congrArg (World.drewN _) (Nat.add_assoc _ _ _))⟩)))
              repeat (go_quiet (first|(go_at_call 38;(with_reducible refine (slices_Equal_int_int.calls k3 _ _ Aj _ _ Ag false _ ?side1 ?side2 ?side3 ?side4 A52.out).mono ?_);(case side1=>repeat (first|exact (Kd.R_reads' Af.out).2.2|(with_reducible refine Kd.C_alloc ?_ _)|(with_reducible refine Kd.C_drewN ?_ _)|(with_reducible refine Kd.C_drew ?_)));(case side2=>exact (Kd.R_reads' Af.out).2.1);(case side3=>repeat (first|exact (Kd.R_reads' Ab.out).2.2|(with_reducible refine Kd.C_alloc ?_ _)|(with_reducible refine Kd.C_drewN ?_ _)|(with_reducible refine Kd.C_drew ?_)));(case side4=>exact (Kd.R_reads' Ab.out).2.1);rintro e w' ⟨rfl,⟨nd,rfl⟩⟩;(try first|exact ⟨rfl,_,World.drewN_drewN _ _ _⟩|exact ⟨rfl,_,Eq.trans (World.drewN_drewN _ _ _) (congrArg (World.drewN _) (Nat.add_assoc _ _ _))⟩)));try go_wp2_with (first|(go_at_call 38;(with_reducible refine (slices_Equal_int_int.calls k3 _ _ Aj _ _ Ag false _ ?side1 ?side2 ?side3 ?side4 A52.out).mono ?_);(case side1=>repeat (first|exact (Kd.R_reads' Af.out).2.2|(with_reducible refine Kd.C_alloc ?_ _)|(with_reducible refine Kd.C_drewN ?_ _)|(with_reducible refine Kd.C_drew ?_)));(case side2=>exact (Kd.R_reads' Af.out).2.1);(case side3=>repeat (first|exact (Kd.R_reads' Ab.out).2.2|(with_reducible refine Kd.C_alloc ?_ _)|(with_reducible refine Kd.C_drewN ?_ _)|(with_reducible refine Kd.C_drew ?_)));(case side4=>exact (Kd.R_reads' Ab.out).2.1);rintro e w' ⟨rfl,⟨nd,rfl⟩⟩;(try first|exact ⟨rfl,_,World.drewN_drewN _ _ _⟩|exact ⟨rfl,_,Eq.trans (World.drewN_drewN _ _ _) (congrArg (World.drewN _) (Nat.add_assoc _ _ _))⟩))))
              (try simp only [← hl7_3])
              go_roundg k3
              case measure=>have:=HK1.out;have:=HK2.out;have:=HK3.out;omega
              case rel=>exact ⟨(Aj),H',⟨by have:=HK1.out;have:=HK2.out;have:=HK3.out;omega⟩,⟨by (try simp only [hl5_1]);(try simp only [hl7_3]);(with_reducible repeat (first|apply Kd.R_alloc|apply Kd.R_drewN|apply Kd.R_drew));exact Kd.R_mono Af.out (fun _ hk=>trivial)⟩,⟨by (try simp only [hl5_1]);(try simp only [hl7_3]);(with_reducible repeat (first|refine blk_drewN ?_ _|refine blk_drew ?_|refine blk_alloc ?_ _));exact BK141.out⟩,⟨by repeat (first|(with_reducible first|exact HB.out|apply below_alloc|apply pw_below_drewN|apply below_drew1|refine below_set ?_ GE141.out)|exact HB.out)⟩⟩
         ·rw [if_neg c19] at H
          exact absurd H (by simp)
        ·rw [if_neg c18] at H
         exact absurd H (by simp)
  ·rw [if_neg c4] at H
   exact absurd H (by simp)
 ·rw [if_neg c3] at H
  exact absurd H (by simp)
end Go.Proofs.Yteppbihlpicjpaa.GM
