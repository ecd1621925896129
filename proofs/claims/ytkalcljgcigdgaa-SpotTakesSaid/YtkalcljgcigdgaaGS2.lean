-- Written by ext.py, a program of this session.
import Derived.Test.YtkalcljgcigdgaaGS0
import Derived.Test.YtkalcljgcigdgaaGS1
namespace Go.Proofs.Ytkalcljgcigdgaa.GS
open Go.RowKit Go.Proofs.YtkalcljgcigdgaaW.PrintWords Go.Proofs.YtkalcljgcigdgaaW.PrintLast Go.Proofs.YtkalcljgcigdgaaW.PrintMore
attribute [local go_sem] max2_int min2_int max_two min_two max_three min_three max_four min_four cellIs_set   -- for this text's walks alone
set_option linter.unusedVariables false
set_option linter.unusedSimpArgs false
/-! ### sentence_Right: function 70 -/
mutual
def sentence_Right.l0 : Nat → Int → List (S128) → Int → Int → Option (Int)
 | 0,_,_,_,_=>none
 | k + 1,x0,x8,x9,x10=>if x10 < x9 then (if 0 ≤ x10 then (if x10 < (x8.length : Int) then (if ((rd_T128 x8 x10).f0) = 1 then (sentence_Right.j1 k x0 x8 x9 x10 ((rd_T128 x8 x10).f0) (((rd_T128 x8 x10).f0) == 1) x10 ((rd_T128 x8 x10).f0) ((rd_T128 x8 x10).f1) ((rd_T128 x8 x10).f2)) else (sentence_Right.j1 k x0 x8 x9 x10 ((rd_T128 x8 x10).f0) (((rd_T128 x8 x10).f0) == 2) x10 ((rd_T128 x8 x10).f0) ((rd_T128 x8 x10).f1) ((rd_T128 x8 x10).f2))) else (none)) else (none)) else (some 0)
def sentence_Right.j1 : Nat → Int → List (S128) → Int → Int → Int → Bool → Int → Int → Int → Int → Option (Int)
 | 0,_,_,_,_,_,_,_,_,_,_=>none
 | k + 1,x0,x8,x9,x10,x17,x18,x103000,x104000,x104001,x104002=>if x18 = true then (sentence_Right.l0 k x0 x8 x9 (wrap64 (x10 + 1))) else (if x17 = 3 then (if x104001 < 0 then (some 2) else (if x104001 ≥ x0 then (some 2) else (sentence_Right.l0 k x0 x8 x9 (wrap64 (x10 + 1))))) else (if x17 = 6 then ((sentence_Right_1.f x104001 x103000).bind fun t104=>(if t104 = true then (sentence_Right.l0 k x0 x8 x9 (wrap64 (x10 + 1))) else (some 2))) else (if x17 = 4 then (sentence_Right.j2 k x0 x8 x9 x10 (x17 == 4) x103000 x104000 x104001 x104002) else (sentence_Right.j2 k x0 x8 x9 x10 (x17 == 5) x103000 x104000 x104001 x104002))))
def sentence_Right.j2 : Nat → Int → List (S128) → Int → Int → Bool → Int → Int → Int → Int → Option (Int)
 | 0,_,_,_,_,_,_,_,_,_=>none
 | k + 1,x0,x8,x9,x10,x39,x103000,x104000,x104001,x104002=>if x39 = true then ((sentence_Right_1.f x104001 x103000).bind fun t105=>(if t105 = true then ((sentence_Right_1.f x104002 x103000).bind fun t106=>(if t106 = true then (sentence_Right.l0 k x0 x8 x9 (wrap64 (x10 + 1))) else (some 2))) else (some 2))) else (some 6)
end
def sentence_Right.f (k : Nat) (a0 : Int) (l1 : List (S128)) : Option (Int):=sentence_Right.l0 k a0 l1 (l1.length : Int) 0
theorem sentence_Right.mono_l : ∀ k,(∀ y0 y1 y2 y3,LeO (sentence_Right.l0 k y0 y1 y2 y3) (sentence_Right.l0 (k + 1) y0 y1 y2 y3)) ∧ (∀ y0 y1 y2 y3 y4 y5 y6 y7 y8 y9,LeO (sentence_Right.j1 k y0 y1 y2 y3 y4 y5 y6 y7 y8 y9) (sentence_Right.j1 (k + 1) y0 y1 y2 y3 y4 y5 y6 y7 y8 y9)) ∧ (∀ y0 y1 y2 y3 y4 y5 y6 y7 y8,LeO (sentence_Right.j2 k y0 y1 y2 y3 y4 y5 y6 y7 y8) (sentence_Right.j2 (k + 1) y0 y1 y2 y3 y4 y5 y6 y7 y8))
 | 0=>⟨fun _ _ _ _ r h=>by simp [sentence_Right.l0] at h,fun _ _ _ _ _ _ _ _ _ _ r h=>by simp [sentence_Right.j1] at h,fun _ _ _ _ _ _ _ _ _ r h=>by simp [sentence_Right.j2] at h⟩
 | k + 1=>by
  obtain ⟨ih0,ih1,ih2⟩:=sentence_Right.mono_l k
  refine ⟨?_,?_,?_⟩
  ·intro y0 y1 y2 y3
   unfold sentence_Right.l0
   repeat' first
   | (with_reducible exact ih0 _ _ _ _)
   | (with_reducible exact ih1 _ _ _ _ _ _ _ _ _ _)
   | (with_reducible exact ih2 _ _ _ _ _ _ _ _ _)
   | (with_reducible exact LeO.refl _)
   | (with_reducible exact LeO.none _)
   | (with_reducible refine LeO.ite ?_ ?_)
   | (with_reducible refine LeO.bind ?_ (fun _=>?_))
   | exact ih0 _ _ _ _
   | exact ih1 _ _ _ _ _ _ _ _ _ _
   | exact ih2 _ _ _ _ _ _ _ _ _
   | exact LeO.none _
   | refine LeO.ite ?_ ?_
   | refine LeO.bind ?_ (fun _=>?_)
  ·intro y0 y1 y2 y3 y4 y5 y6 y7 y8 y9
   unfold sentence_Right.j1
   repeat' first
   | (with_reducible exact ih0 _ _ _ _)
   | (with_reducible exact ih1 _ _ _ _ _ _ _ _ _ _)
   | (with_reducible exact ih2 _ _ _ _ _ _ _ _ _)
   | (with_reducible exact LeO.refl _)
   | (with_reducible exact LeO.none _)
   | (with_reducible refine LeO.ite ?_ ?_)
   | (with_reducible refine LeO.bind ?_ (fun _=>?_))
   | exact ih0 _ _ _ _
   | exact ih1 _ _ _ _ _ _ _ _ _ _
   | exact ih2 _ _ _ _ _ _ _ _ _
   | exact LeO.none _
   | refine LeO.ite ?_ ?_
   | refine LeO.bind ?_ (fun _=>?_)
  ·intro y0 y1 y2 y3 y4 y5 y6 y7 y8
   unfold sentence_Right.j2
   repeat' first
   | (with_reducible exact ih0 _ _ _ _)
   | (with_reducible exact ih1 _ _ _ _ _ _ _ _ _ _)
   | (with_reducible exact ih2 _ _ _ _ _ _ _ _ _)
   | (with_reducible exact LeO.refl _)
   | (with_reducible exact LeO.none _)
   | (with_reducible refine LeO.ite ?_ ?_)
   | (with_reducible refine LeO.bind ?_ (fun _=>?_))
   | exact ih0 _ _ _ _
   | exact ih1 _ _ _ _ _ _ _ _ _ _
   | exact ih2 _ _ _ _ _ _ _ _ _
   | exact LeO.none _
   | refine LeO.ite ?_ ?_
   | refine LeO.bind ?_ (fun _=>?_)
theorem sentence_Right.mono : ∀ a0 a1 k,LeO (sentence_Right.f k a0 a1) (sentence_Right.f (k + 1) a0 a1):=by
 intro a0 a1 k
 obtain ⟨ih0,ih1,ih2⟩:=sentence_Right.mono_l k
 unfold sentence_Right.f
 repeat' first
   | (with_reducible exact ih0 _ _ _ _)
   | (with_reducible exact ih1 _ _ _ _ _ _ _ _ _ _)
   | (with_reducible exact ih2 _ _ _ _ _ _ _ _ _)
   | (with_reducible exact LeO.refl _)
   | (with_reducible exact LeO.none _)
   | (with_reducible refine LeO.ite ?_ ?_)
   | (with_reducible refine LeO.bind ?_ (fun _=>?_))
   | exact ih0 _ _ _ _
   | exact ih1 _ _ _ _ _ _ _ _ _ _
   | exact ih2 _ _ _ _ _ _ _ _ _
   | exact LeO.none _
   | refine LeO.ite ?_ ?_
   | refine LeO.bind ?_ (fun _=>?_)
set_option maxHeartbeats 8000000 in
set_option maxRecDepth 100000 in
theorem sentence_Right.calls (k : Nat) (a0 : Int) (A1 : Option Addr) (c1 : Nat) (l1 : List (S128)) (r : Int) (w : World) (hr1 : Kd.C k128 w A1 l1.length l1) (hc1 : l1.length ≤ c1) (h : sentence_Right.f k a0 l1 = some r) :
  Calls Try.prog 70 #[.int .i64 a0,.slice A1 l1.length c1] w fun e w'=>e = .returned (.int .i64 r) ∧ Below w.heap.size w w':=by
 have hu128:=Try.underlying128
 have HR1:=Aside0.mk hr1
 have HC1:=Aside0.mk hc1
 clear hr1 hc1
 have HB:=Aside0.mk (Below.refl w.heap.size w)
 have H : (sentence_Right.l0 k a0 l1 (l1.length : Int) 0) = some r:=h
 clear h
 have H':=Aside0.mk H
 clear H
 go_enter Try.func70,Try.ntmps70
 go_wp2
 go_loopg [10] k (fun kq v10 w'=>∃ (x10_1 : Int),v10 = .int .i64 x10_1 ∧ Aside0 (sentence_Right.l0 kq a0 l1 (l1.length : Int) x10_1 = some r) ∧ Aside0 (kq ≤ k) ∧ Aside0 (Below w.heap.size w w'))
 case atStart=>exact ⟨(0),(by first|rfl|(simp;done)|(simp [*];done)),H',⟨Nat.le_refl _⟩,⟨by repeat (first|(with_reducible first|exact HB.out|apply below_alloc|apply pw_below_drewN|apply below_drew1)|exact HB.out)⟩⟩
 case round =>
  clear H'
  try clear c1
  try clear p2
  obtain ⟨x10_1,rfl,HA,HK1,HB⟩:=hrel
  cases gk with
  | zero=>exact absurd HA.out (by simp [sentence_Right.l0])
  | succ k1 =>
   have H:=HA.out
   clear HA
   simp only [sentence_Right.l0] at H
   by_cases c3 : x10_1 < (l1.length : Int)
   ·rw [if_pos c3] at H
    have c3b0 : decide (x10_1 < (l1.length : Int)) = true:=decide_eq_true c3
    clear c3
    by_cases c4 : 0 ≤ x10_1
    ·rw [if_pos c4] at H
     have c4b0 : decide (0 ≤ x10_1) = true:=decide_eq_true c4
     clear c4
     by_cases c5 : x10_1 < (l1.length : Int)
     ·rw [if_pos c5] at H
      have c5b0 : decide (x10_1 < (l1.length : Int)) = true:=decide_eq_true c5
      clear c5
      have HC6:=Aside0.mk H
      clear H
      have p101 : 0 ≤ (x10_1 : Int):=of_decide_eq_true (by first|(with_reducible assumption)|assumption)
      have q101 : x10_1 < (l1.length : Int):=of_decide_eq_true (by first|(with_reducible assumption)|assumption)
      obtain ⟨ad101,e101,hx101_0,hx101_1,hx101_2⟩:=at_T128 HR1.out x10_1 p101 q101
      cases e101
      replace hx101_0:=(HB.out.cell (World.block_lt_of_cell? w _ hx101_0)).trans hx101_0
      replace hx101_1:=(HB.out.cell (World.block_lt_of_cell? w _ hx101_1)).trans hx101_1
      replace hx101_2:=(HB.out.cell (World.block_lt_of_cell? w _ hx101_2)).trans hx101_2
      replace p101:=eq_true p101
      replace q101:=eq_true q101
      go_upto_if 18 with (first|((with_reducible refine gate_dst (N:=5) rfl ?_);refine box_event ?hg (N:=5) ?hd (cs:=#[.int .i64 0]) (t:=3) ?hr ?_;(case hd=>rfl);(case hg=>rfl);(case hr=>first|(go_simp;done)|(go_simp;rfl));intro gb102 hg w7 hbox hb;have n0_:=Aside0.mk (below_step (by repeat (first|(with_reducible first|exact HB.out|apply below_alloc|apply pw_below_drewN|apply below_drew1)|exact HB.out)) hb);have n1_:=Aside0.mk (hbox);have n2_:=Aside0.mk ((by rw [hg];exact (below_size (by repeat (first|(with_reducible first|exact HB.out|apply below_alloc|apply pw_below_drewN|apply below_drew1)|exact HB.out))) : w.heap.size ≤ gb102));have n3_:=Aside0.mk ((by rw [hg];exact (below_size (by repeat (first|(with_reducible first|exact HB.out|apply below_alloc|apply pw_below_drewN|apply below_drew1)|exact HB.out))) : w.heap.size ≤ gb102));clear HB;have HB:=n0_;have BK102:=n1_;have GW102:=n2_;have GE102:=n3_;clear n0_ n1_ n2_ n3_;clear hb hbox hg)|((with_reducible refine gate_dst (N:=6) rfl ?_);refine box_event ?hg (N:=6) ?hd (cs:=#[.int .i64 0,.int .i64 0,.int .i64 0]) (t:=128) ?hr ?_;(case hd=>rfl);(case hg=>rfl);(case hr=>first|(go_simp;done)|(go_simp;rfl));intro gb103 hg w8 hbox hb;have n0_:=Aside0.mk (blk_below (g:=gb102) (o:=.cells #[.int .i64 0] 3 (0,0)) (by (with_reducible repeat (first|refine blk_drewN ?_ _|refine blk_drew ?_|refine blk_alloc ?_ _));exact BK102.out) hb);have n1_:=Aside0.mk (below_step (by repeat (first|(with_reducible first|exact HB.out|apply below_alloc|apply pw_below_drewN|apply below_drew1|refine below_set ?_ GE102.out)|exact HB.out)) hb);have n2_:=Aside0.mk (hbox);have n3_:=Aside0.mk ((by rw [hg];exact (below_size (by repeat (first|(with_reducible first|exact HB.out|apply below_alloc|apply pw_below_drewN|apply below_drew1|refine below_set ?_ GE102.out)|exact HB.out))) : w.heap.size ≤ gb103));have n4_:=Aside0.mk ((by rw [hg];exact (below_size (by repeat (first|(with_reducible first|exact HB.out|apply below_alloc|apply pw_below_drewN|apply below_drew1|refine below_set ?_ GE102.out)|exact HB.out))) : w.heap.size ≤ gb103));have n5_:=Aside0.mk ((by rw [hg];exact Nat.ne_of_lt (blk_lt (g:=gb102) (o:=.cells #[.int .i64 0] 3 (0,0)) (by (with_reducible repeat (first|refine blk_drewN ?_ _|refine blk_drew ?_|refine blk_alloc ?_ _));exact BK102.out)) : gb102 ≠ gb103));have n6_:=Aside0.mk ((by rw [hg];exact Nat.ne_of_gt (blk_lt (g:=gb102) (o:=.cells #[.int .i64 0] 3 (0,0)) (by (with_reducible repeat (first|refine blk_drewN ?_ _|refine blk_drew ?_|refine blk_alloc ?_ _));exact BK102.out)) : gb103 ≠ gb102));clear BK102;clear HB;have BK102:=n0_;have HB:=n1_;have BK103:=n2_;have GW103:=n3_;have GE103:=n4_;have NB102_103:=n5_;have NB103_102:=n6_;clear n0_ n1_ n2_ n3_ n4_ n5_ n6_;clear hb hbox hg;have hnb9:=NB102_103.out;have hnc9:=NB103_102.out;have hcz10_0 : w8.cell? ⟨gb102,0,none⟩ = some (.int .i64 0):=(blk_cell BK102.out 0).trans rfl;have hfz10_0:=blk_frozen BK102.out 0;have hcz11_0 : w8.cell? ⟨gb103,0,none⟩ = some (.int .i64 0):=(blk_cell BK103.out 0).trans rfl;have hcz11_1 : w8.cell? ⟨gb103,1,none⟩ = some (.int .i64 0):=(blk_cell BK103.out 1).trans rfl;have hcz11_2 : w8.cell? ⟨gb103,2,none⟩ = some (.int .i64 0):=(blk_cell BK103.out 2).trans rfl;have hfz11_0:=blk_frozen BK103.out 0;have hfz11_1:=blk_frozen BK103.out 1;have hfz11_2:=blk_frozen BK103.out 2))
      (try simp only [Act.put,List.setIfInBounds_toArray,List.set_cons_zero,List.set_cons_succ])
      go_cut [18] (fun v18 wc=>∃ (kq : Nat) (x18_5 : Bool),v18 = .bool x18_5 ∧ Aside0 (sentence_Right.j1 kq a0 l1 (l1.length : Int) x10_1 ((rd_T128 l1 x10_1).f0) x18_5 x10_1 ((rd_T128 l1 x10_1).f0) ((rd_T128 l1 x10_1).f1) ((rd_T128 l1 x10_1).f2) = some r) ∧ Aside0 (kq ≤ k1) ∧ Aside0 (wc.heap[gb102]? = some (.cells #[.int .i64 x10_1] 3 (0,0))) ∧ Aside0 (wc.heap[gb103]? = some (.cells #[.int .i64 ((rd_T128 l1 x10_1).f0),.int .i64 ((rd_T128 l1 x10_1).f1),.int .i64 ((rd_T128 l1 x10_1).f2)] 128 (0,0))) ∧ Aside0 (Below w.heap.size w wc))
      case first =>
       have H:=HC6.out
       clear HC6
       by_cases c12 : ((rd_T128 l1 x10_1).f0) = 1
       ·rw [if_pos c12] at H
        have c12b0 : (((rd_T128 l1 x10_1).f0) == 1) = true:=beq_iff_eq.mpr c12
        have c12b1 : (((rd_T128 l1 x10_1).f0) != 1) = false:=bne_eq_false_iff_eq.mpr c12
        clear c12
        (first|rw [c12b0]|(simp only [i64_w,i32_w];rw [c12b0])|skip)
        have H':=Aside0.mk H
        clear H
        go_wp2
        go_meet
        case rel=>exact ⟨_,((((rd_T128 l1 x10_1).f0) == 1)),(by first|rfl|(simp;done)|(simp [*];done)),H',⟨by have:=HK1.out;first|omega|exact Nat.le_refl _⟩,⟨by (with_reducible repeat (first|refine blk_drewN ?_ _|refine blk_drew ?_|refine blk_alloc ?_ _));refine blk_far ?_ NB102_103.out _;(with_reducible repeat (first|refine blk_drewN ?_ _|refine blk_drew ?_|refine blk_alloc ?_ _));refine blk_far ?_ NB102_103.out _;(with_reducible repeat (first|refine blk_drewN ?_ _|refine blk_drew ?_|refine blk_alloc ?_ _));refine blk_far ?_ NB102_103.out _;(with_reducible repeat (first|refine blk_drewN ?_ _|refine blk_drew ?_|refine blk_alloc ?_ _));refine blk_put (cs:=#[.int .i64 0]) ?_ 0 _ rfl;(with_reducible repeat (first|refine blk_drewN ?_ _|refine blk_drew ?_|refine blk_alloc ?_ _));exact BK102.out⟩,⟨by (with_reducible repeat (first|refine blk_drewN ?_ _|refine blk_drew ?_|refine blk_alloc ?_ _));refine blk_put (cs:=#[.int .i64 ((rd_T128 l1 x10_1).f0),.int .i64 ((rd_T128 l1 x10_1).f1),.int .i64 0]) ?_ 2 _ rfl;(with_reducible repeat (first|refine blk_drewN ?_ _|refine blk_drew ?_|refine blk_alloc ?_ _));refine blk_put (cs:=#[.int .i64 ((rd_T128 l1 x10_1).f0),.int .i64 0,.int .i64 0]) ?_ 1 _ rfl;(with_reducible repeat (first|refine blk_drewN ?_ _|refine blk_drew ?_|refine blk_alloc ?_ _));refine blk_put (cs:=#[.int .i64 0,.int .i64 0,.int .i64 0]) ?_ 0 _ rfl;(with_reducible repeat (first|refine blk_drewN ?_ _|refine blk_drew ?_|refine blk_alloc ?_ _));refine blk_far ?_ NB103_102.out _;(with_reducible repeat (first|refine blk_drewN ?_ _|refine blk_drew ?_|refine blk_alloc ?_ _));exact BK103.out⟩,⟨by repeat (first|(with_reducible first|exact HB.out|apply below_alloc|apply pw_below_drewN|apply below_drew1|refine below_set ?_ GE102.out|refine below_set ?_ GE103.out)|exact HB.out)⟩⟩
       ·rw [if_neg c12] at H
        have c12b0 : (((rd_T128 l1 x10_1).f0) == 1) = false:=beq_eq_false_iff_ne.mpr c12
        have c12b1 : (((rd_T128 l1 x10_1).f0) != 1) = true:=bne_iff_ne.mpr c12
        (first|rw [c12b0]|(simp only [i64_w,i32_w];rw [c12b0])|skip)
        have H':=Aside0.mk H
        clear H
        go_wp2
        go_meet
        case rel=>exact ⟨_,((((rd_T128 l1 x10_1).f0) == 2)),(by first|rfl|(simp;done)|(simp [*];done)),H',⟨by have:=HK1.out;first|omega|exact Nat.le_refl _⟩,⟨by (with_reducible repeat (first|refine blk_drewN ?_ _|refine blk_drew ?_|refine blk_alloc ?_ _));refine blk_far ?_ NB102_103.out _;(with_reducible repeat (first|refine blk_drewN ?_ _|refine blk_drew ?_|refine blk_alloc ?_ _));refine blk_far ?_ NB102_103.out _;(with_reducible repeat (first|refine blk_drewN ?_ _|refine blk_drew ?_|refine blk_alloc ?_ _));refine blk_far ?_ NB102_103.out _;(with_reducible repeat (first|refine blk_drewN ?_ _|refine blk_drew ?_|refine blk_alloc ?_ _));refine blk_put (cs:=#[.int .i64 0]) ?_ 0 _ rfl;(with_reducible repeat (first|refine blk_drewN ?_ _|refine blk_drew ?_|refine blk_alloc ?_ _));exact BK102.out⟩,⟨by (with_reducible repeat (first|refine blk_drewN ?_ _|refine blk_drew ?_|refine blk_alloc ?_ _));refine blk_put (cs:=#[.int .i64 ((rd_T128 l1 x10_1).f0),.int .i64 ((rd_T128 l1 x10_1).f1),.int .i64 0]) ?_ 2 _ rfl;(with_reducible repeat (first|refine blk_drewN ?_ _|refine blk_drew ?_|refine blk_alloc ?_ _));refine blk_put (cs:=#[.int .i64 ((rd_T128 l1 x10_1).f0),.int .i64 0,.int .i64 0]) ?_ 1 _ rfl;(with_reducible repeat (first|refine blk_drewN ?_ _|refine blk_drew ?_|refine blk_alloc ?_ _));refine blk_put (cs:=#[.int .i64 0,.int .i64 0,.int .i64 0]) ?_ 0 _ rfl;(with_reducible repeat (first|refine blk_drewN ?_ _|refine blk_drew ?_|refine blk_alloc ?_ _));refine blk_far ?_ NB103_102.out _;(with_reducible repeat (first|refine blk_drewN ?_ _|refine blk_drew ?_|refine blk_alloc ?_ _));exact BK103.out⟩,⟨by repeat (first|(with_reducible first|exact HB.out|apply below_alloc|apply pw_below_drewN|apply below_drew1|refine below_set ?_ GE102.out|refine below_set ?_ GE103.out)|exact HB.out)⟩⟩
      case rest =>
       clear HC6
       try clear c1
       try clear p1
       try clear q1
       try clear hx1
       try clear p2
       try clear c3
       try clear c3b0
       try clear c4
       try clear c4b0
       try clear c5
       try clear c5b0
       try clear c7
       try clear c9
       try clear p10
       try clear q10
       try clear hx10
       try clear c12
       try clear c12b0
       try clear c12b1
       try clear hcz10_0
       try clear hcz11_0
       try clear hcz11_1
       try clear hcz11_2
       try clear hfz10_0
       try clear hfz11_0
       try clear hfz11_1
       try clear hfz11_2
       try clear hx101_0
       try clear hx101_1
       try clear hx101_2
       try clear p101
       try clear p2
       try clear q101
       obtain ⟨kq,x18_5,rfl,HA,HJ5,BK102,BK103,HB⟩:=hcut
       cases kq with
       | zero=>exact absurd HA.out (by simp [sentence_Right.j1])
       | succ kj5 =>
        have H:=HA.out
        clear HA
        simp only [sentence_Right.j1] at H
        by_cases c13 : x18_5 = true
        ·subst c13
         have H1 : (sentence_Right.l0 kj5 a0 l1 (l1.length : Int) (wrap64 (x10_1 + 1))) = some r:=by rw [if_pos rfl] at H;exact H
         clear H
         have H:=H1
         clear H1
         have H':=Aside0.mk H
         clear H
         go_wp2
         go_roundg kj5
         case measure=>have:=HK1.out;have:=HJ5.out;omega
         case rel=>exact ⟨(wrap64 (x10_1 + 1)),(by first|rfl|(simp;done)|(simp [*];done)),H',⟨by have:=HK1.out;have:=HJ5.out;omega⟩,⟨by repeat (first|(with_reducible first|exact HB.out|apply below_alloc|apply pw_below_drewN|apply below_drew1|refine below_set ?_ GE102.out|refine below_set ?_ GE103.out)|exact HB.out)⟩⟩
        ·replace c13:=Bool.eq_false_iff.mpr c13
         subst c13
         have H1 : (if ((rd_T128 l1 x10_1).f0) = 3 then (if ((rd_T128 l1 x10_1).f1) < 0 then (some 2) else (if ((rd_T128 l1 x10_1).f1) ≥ a0 then (some 2) else (sentence_Right.l0 kj5 a0 l1 (l1.length : Int) (wrap64 (x10_1 + 1))))) else (if ((rd_T128 l1 x10_1).f0) = 6 then ((sentence_Right_1.f ((rd_T128 l1 x10_1).f1) x10_1).bind fun t104=>(if t104 = true then (sentence_Right.l0 kj5 a0 l1 (l1.length : Int) (wrap64 (x10_1 + 1))) else (some 2))) else (if ((rd_T128 l1 x10_1).f0) = 4 then (sentence_Right.j2 kj5 a0 l1 (l1.length : Int) x10_1 (((rd_T128 l1 x10_1).f0) == 4) x10_1 ((rd_T128 l1 x10_1).f0) ((rd_T128 l1 x10_1).f1) ((rd_T128 l1 x10_1).f2)) else (sentence_Right.j2 kj5 a0 l1 (l1.length : Int) x10_1 (((rd_T128 l1 x10_1).f0) == 5) x10_1 ((rd_T128 l1 x10_1).f0) ((rd_T128 l1 x10_1).f1) ((rd_T128 l1 x10_1).f2))))) = some r:=by rw [if_neg (show ¬ (false = true) by decide)] at H;exact H
         clear H
         have H:=H1
         clear H1
         by_cases c14 : ((rd_T128 l1 x10_1).f0) = 3
         ·rw [if_pos c14] at H
          have c14b0 : (((rd_T128 l1 x10_1).f0) == 3) = true:=beq_iff_eq.mpr c14
          have c14b1 : (((rd_T128 l1 x10_1).f0) != 3) = false:=bne_eq_false_iff_eq.mpr c14
          clear c14
          by_cases c15 : ((rd_T128 l1 x10_1).f1) < 0
          ·rw [if_pos c15] at H
           have c15b0 : decide (((rd_T128 l1 x10_1).f1) < 0) = true:=decide_eq_true c15
           clear c15
           obtain rfl:=Option.some.inj H
           have hnb16:=NB103_102.out
           have hnc16:=NB102_103.out
           have hcz17_0 : wc.cell? ⟨gb103,0,none⟩ = some (.int .i64 ((rd_T128 l1 x10_1).f0)):=(blk_cell BK103.out 0).trans rfl
           have hcz17_1 : wc.cell? ⟨gb103,1,none⟩ = some (.int .i64 ((rd_T128 l1 x10_1).f1)):=(blk_cell BK103.out 1).trans rfl
           have hcz17_2 : wc.cell? ⟨gb103,2,none⟩ = some (.int .i64 ((rd_T128 l1 x10_1).f2)):=(blk_cell BK103.out 2).trans rfl
           have hfz17_0:=blk_frozen BK103.out 0
           have hfz17_1:=blk_frozen BK103.out 1
           have hfz17_2:=blk_frozen BK103.out 2
           go_wp2
           go_ret
           exact ⟨by first|rfl|(simp [errW_none,errW_some] <;> rfl)|(simp [*,errW_none,errW_some] <;> rfl),by repeat (first|(with_reducible first|exact HB.out|apply below_alloc|apply pw_below_drewN|apply below_drew1|refine below_set ?_ GE102.out|refine below_set ?_ GE103.out)|exact HB.out)⟩
          ·rw [if_neg c15] at H
           have c15b0 : decide (((rd_T128 l1 x10_1).f1) < 0) = false:=decide_eq_false c15
           clear c15
           by_cases c18 : ((rd_T128 l1 x10_1).f1) ≥ a0
           ·rw [if_pos c18] at H
            have c18b0 : decide (a0 ≤ ((rd_T128 l1 x10_1).f1)) = true:=decide_eq_true c18
            clear c18
            obtain rfl:=Option.some.inj H
            have hnb19:=NB103_102.out
            have hnc19:=NB102_103.out
            have hcz20_0 : wc.cell? ⟨gb103,0,none⟩ = some (.int .i64 ((rd_T128 l1 x10_1).f0)):=(blk_cell BK103.out 0).trans rfl
            have hcz20_1 : wc.cell? ⟨gb103,1,none⟩ = some (.int .i64 ((rd_T128 l1 x10_1).f1)):=(blk_cell BK103.out 1).trans rfl
            have hcz20_2 : wc.cell? ⟨gb103,2,none⟩ = some (.int .i64 ((rd_T128 l1 x10_1).f2)):=(blk_cell BK103.out 2).trans rfl
            have hfz20_0:=blk_frozen BK103.out 0
            have hfz20_1:=blk_frozen BK103.out 1
            have hfz20_2:=blk_frozen BK103.out 2
            go_wp2
            go_ret
            exact ⟨by first|rfl|(simp [errW_none,errW_some] <;> rfl)|(simp [*,errW_none,errW_some] <;> rfl),by repeat (first|(with_reducible first|exact HB.out|apply below_alloc|apply pw_below_drewN|apply below_drew1|refine below_set ?_ GE102.out|refine below_set ?_ GE103.out)|exact HB.out)⟩
           ·rw [if_neg c18] at H
            have c18b0 : decide (a0 ≤ ((rd_T128 l1 x10_1).f1)) = false:=decide_eq_false c18
            clear c18
            have H':=Aside0.mk H
            clear H
            have hnb21:=NB103_102.out
            have hnc21:=NB102_103.out
            have hcz22_0 : wc.cell? ⟨gb103,0,none⟩ = some (.int .i64 ((rd_T128 l1 x10_1).f0)):=(blk_cell BK103.out 0).trans rfl
            have hcz22_1 : wc.cell? ⟨gb103,1,none⟩ = some (.int .i64 ((rd_T128 l1 x10_1).f1)):=(blk_cell BK103.out 1).trans rfl
            have hcz22_2 : wc.cell? ⟨gb103,2,none⟩ = some (.int .i64 ((rd_T128 l1 x10_1).f2)):=(blk_cell BK103.out 2).trans rfl
            have hfz22_0:=blk_frozen BK103.out 0
            have hfz22_1:=blk_frozen BK103.out 1
            have hfz22_2:=blk_frozen BK103.out 2
            go_wp2
            go_roundg kj5
            case measure=>have:=HK1.out;have:=HJ5.out;omega
            case rel=>exact ⟨(wrap64 (x10_1 + 1)),(by first|rfl|(simp;done)|(simp [*];done)),H',⟨by have:=HK1.out;have:=HJ5.out;omega⟩,⟨by repeat (first|(with_reducible first|exact HB.out|apply below_alloc|apply pw_below_drewN|apply below_drew1|refine below_set ?_ GE102.out|refine below_set ?_ GE103.out)|exact HB.out)⟩⟩
         ·rw [if_neg c14] at H
          have c14b0 : (((rd_T128 l1 x10_1).f0) == 3) = false:=beq_eq_false_iff_ne.mpr c14
          have c14b1 : (((rd_T128 l1 x10_1).f0) != 3) = true:=bne_iff_ne.mpr c14
          by_cases c23 : ((rd_T128 l1 x10_1).f0) = 6
          ·rw [if_pos c23] at H
           have c23b0 : (((rd_T128 l1 x10_1).f0) == 6) = true:=beq_iff_eq.mpr c23
           have c23b1 : (((rd_T128 l1 x10_1).f0) != 6) = false:=bne_eq_false_iff_eq.mpr c23
           clear c23
           replace H:=Option.bind_eq_some_iff.mp H
           obtain ⟨t104,A240,H⟩:=H
           replace H : (if t104 = true then (sentence_Right.l0 kj5 a0 l1 (l1.length : Int) (wrap64 (x10_1 + 1))) else (some 2)) = some r:=H
           have A24:=Aside0.mk A240
           clear A240
           by_cases c25 : t104 = true
           ·subst c25
            have H1 : (sentence_Right.l0 kj5 a0 l1 (l1.length : Int) (wrap64 (x10_1 + 1))) = some r:=by rw [if_pos rfl] at H;exact H
            clear H
            have H:=H1
            clear H1
            have H':=Aside0.mk H
            clear H
            have hnb26:=NB103_102.out
            have hnc26:=NB102_103.out
            have hcz27_0 : wc.cell? ⟨gb103,0,none⟩ = some (.int .i64 ((rd_T128 l1 x10_1).f0)):=(blk_cell BK103.out 0).trans rfl
            have hcz27_1 : wc.cell? ⟨gb103,1,none⟩ = some (.int .i64 ((rd_T128 l1 x10_1).f1)):=(blk_cell BK103.out 1).trans rfl
            have hcz27_2 : wc.cell? ⟨gb103,2,none⟩ = some (.int .i64 ((rd_T128 l1 x10_1).f2)):=(blk_cell BK103.out 2).trans rfl
            have hfz27_0:=blk_frozen BK103.out 0
            have hfz27_1:=blk_frozen BK103.out 1
            have hfz27_2:=blk_frozen BK103.out 2
            go_wp2_with (first|(go_at_call 93;(with_reducible refine (sentence_Right_1.calls ((rd_T128 l1 x10_1).f1) gb102 #[.int .i64 x10_1] x10_1 true _ ?side1 ?side2 A24.out).mono ?_);(case side1=>exact by (with_reducible repeat (first|refine blk_drewN ?_ _|refine blk_drew ?_|refine blk_alloc ?_ _));exact BK102.out);(case side2=>rfl);rintro e w' ⟨rfl,⟨nd,rfl⟩⟩))
            go_roundg kj5
            case measure=>have:=HK1.out;have:=HJ5.out;omega
            case rel=>exact ⟨(wrap64 (x10_1 + 1)),(by first|rfl|(simp;done)|(simp [*];done)),H',⟨by have:=HK1.out;have:=HJ5.out;omega⟩,⟨by repeat (first|(with_reducible first|exact HB.out|apply below_alloc|apply pw_below_drewN|apply below_drew1|refine below_set ?_ GE102.out|refine below_set ?_ GE103.out)|exact HB.out)⟩⟩
           ·replace c25:=Bool.eq_false_iff.mpr c25
            subst c25
            have H1 : (some 2) = some r:=by rw [if_neg (show ¬ (false = true) by decide)] at H;exact H
            clear H
            have H:=H1
            clear H1
            obtain rfl:=Option.some.inj H
            have hnb28:=NB103_102.out
            have hnc28:=NB102_103.out
            have hcz29_0 : wc.cell? ⟨gb103,0,none⟩ = some (.int .i64 ((rd_T128 l1 x10_1).f0)):=(blk_cell BK103.out 0).trans rfl
            have hcz29_1 : wc.cell? ⟨gb103,1,none⟩ = some (.int .i64 ((rd_T128 l1 x10_1).f1)):=(blk_cell BK103.out 1).trans rfl
            have hcz29_2 : wc.cell? ⟨gb103,2,none⟩ = some (.int .i64 ((rd_T128 l1 x10_1).f2)):=(blk_cell BK103.out 2).trans rfl
            have hfz29_0:=blk_frozen BK103.out 0
            have hfz29_1:=blk_frozen BK103.out 1
            have hfz29_2:=blk_frozen BK103.out 2
            go_wp2_with (first|(go_at_call 93;(with_reducible refine (sentence_Right_1.calls ((rd_T128 l1 x10_1).f1) gb102 #[.int .i64 x10_1] x10_1 false _ ?side1 ?side2 A24.out).mono ?_);(case side1=>exact by (with_reducible repeat (first|refine blk_drewN ?_ _|refine blk_drew ?_|refine blk_alloc ?_ _));exact BK102.out);(case side2=>rfl);rintro e w' ⟨rfl,⟨nd,rfl⟩⟩))
            go_ret
            exact ⟨by first|rfl|(simp [errW_none,errW_some] <;> rfl)|(simp [*,errW_none,errW_some] <;> rfl),by repeat (first|(with_reducible first|exact HB.out|apply below_alloc|apply pw_below_drewN|apply below_drew1|refine below_set ?_ GE102.out|refine below_set ?_ GE103.out)|exact HB.out)⟩
          ·rw [if_neg c23] at H
           have c23b0 : (((rd_T128 l1 x10_1).f0) == 6) = false:=beq_eq_false_iff_ne.mpr c23
           have c23b1 : (((rd_T128 l1 x10_1).f0) != 6) = true:=bne_iff_ne.mpr c23
           have HC30:=Aside0.mk H
           clear H
           go_upto_if 39 with (fail)
           go_cut [39] (fun v39 wc=>∃ (kq : Nat) (x39_29 : Bool),v39 = .bool x39_29 ∧ Aside0 (sentence_Right.j2 kq a0 l1 (l1.length : Int) x10_1 x39_29 x10_1 ((rd_T128 l1 x10_1).f0) ((rd_T128 l1 x10_1).f1) ((rd_T128 l1 x10_1).f2) = some r) ∧ Aside0 (kq ≤ kj5) ∧ Aside0 (wc.heap[gb102]? = some (.cells #[.int .i64 x10_1] 3 (0,0))) ∧ Aside0 (wc.heap[gb103]? = some (.cells #[.int .i64 ((rd_T128 l1 x10_1).f0),.int .i64 ((rd_T128 l1 x10_1).f1),.int .i64 ((rd_T128 l1 x10_1).f2)] 128 (0,0))) ∧ Aside0 (Below w.heap.size w wc))
           case first =>
            have H:=HC30.out
            clear HC30
            by_cases c31 : ((rd_T128 l1 x10_1).f0) = 4
            ·rw [if_pos c31] at H
             have c31b0 : (((rd_T128 l1 x10_1).f0) == 4) = true:=beq_iff_eq.mpr c31
             have c31b1 : (((rd_T128 l1 x10_1).f0) != 4) = false:=bne_eq_false_iff_eq.mpr c31
             clear c31
             (first|rw [c31b0]|(simp only [i64_w,i32_w];rw [c31b0])|skip)
             have H':=Aside0.mk H
             clear H
             go_wp2
             go_meet
             case rel=>exact ⟨_,((((rd_T128 l1 x10_1).f0) == 4)),(by first|rfl|(simp;done)|(simp [*];done)),H',⟨by have:=HK1.out;have:=HJ5.out;first|omega|exact Nat.le_refl _⟩,⟨by (with_reducible repeat (first|refine blk_drewN ?_ _|refine blk_drew ?_|refine blk_alloc ?_ _));exact BK102.out⟩,⟨by (with_reducible repeat (first|refine blk_drewN ?_ _|refine blk_drew ?_|refine blk_alloc ?_ _));exact BK103.out⟩,⟨by repeat (first|(with_reducible first|exact HB.out|apply below_alloc|apply pw_below_drewN|apply below_drew1|refine below_set ?_ GE102.out|refine below_set ?_ GE103.out)|exact HB.out)⟩⟩
            ·rw [if_neg c31] at H
             have c31b0 : (((rd_T128 l1 x10_1).f0) == 4) = false:=beq_eq_false_iff_ne.mpr c31
             have c31b1 : (((rd_T128 l1 x10_1).f0) != 4) = true:=bne_iff_ne.mpr c31
             (first|rw [c31b0]|(simp only [i64_w,i32_w];rw [c31b0])|skip)
             have H':=Aside0.mk H
             clear H
             go_wp2
             go_meet
             case rel=>exact ⟨_,((((rd_T128 l1 x10_1).f0) == 5)),(by first|rfl|(simp;done)|(simp [*];done)),H',⟨by have:=HK1.out;have:=HJ5.out;first|omega|exact Nat.le_refl _⟩,⟨by (with_reducible repeat (first|refine blk_drewN ?_ _|refine blk_drew ?_|refine blk_alloc ?_ _));exact BK102.out⟩,⟨by (with_reducible repeat (first|refine blk_drewN ?_ _|refine blk_drew ?_|refine blk_alloc ?_ _));exact BK103.out⟩,⟨by repeat (first|(with_reducible first|exact HB.out|apply below_alloc|apply pw_below_drewN|apply below_drew1|refine below_set ?_ GE102.out|refine below_set ?_ GE103.out)|exact HB.out)⟩⟩
           case rest =>
            clear HC30
            try clear c1
            try clear p1
            try clear q1
            try clear hx1
            try clear c2
            try clear p2
            try clear c3
            try clear c3b0
            try clear c4
            try clear c4b0
            try clear c5
            try clear c5b0
            try clear p6
            try clear c7
            try clear c9
            try clear p10
            try clear q10
            try clear hx10
            try clear c12
            try clear c12b0
            try clear c12b1
            try clear c13
            try clear c14
            try clear c14b0
            try clear c14b1
            try clear c15
            try clear c15b0
            try clear c16
            try clear c18
            try clear c18b0
            try clear c19
            try clear c21
            try clear c23
            try clear c23b0
            try clear c23b1
            try clear c25
            try clear c26
            try clear c28
            try clear c31
            try clear c31b0
            try clear c31b1
            try clear hcz10_0
            try clear hcz11_0
            try clear hcz11_1
            try clear hcz11_2
            try clear hcz17_0
            try clear hcz17_1
            try clear hcz17_2
            try clear hcz20_0
            try clear hcz20_1
            try clear hcz20_2
            try clear hcz22_0
            try clear hcz22_1
            try clear hcz22_2
            try clear hcz27_0
            try clear hcz27_1
            try clear hcz27_2
            try clear hcz29_0
            try clear hcz29_1
            try clear hcz29_2
            try clear hfz10_0
            try clear hfz11_0
            try clear hfz11_1
            try clear hfz11_2
            try clear hfz17_0
            try clear hfz17_1
            try clear hfz17_2
            try clear hfz20_0
            try clear hfz20_1
            try clear hfz20_2
            try clear hfz22_0
            try clear hfz22_1
            try clear hfz22_2
            try clear hfz27_0
            try clear hfz27_1
            try clear hfz27_2
            try clear hfz29_0
            try clear hfz29_1
            try clear hfz29_2
            try clear hx101_0
            try clear hx101_1
            try clear hx101_2
            try clear p1
            try clear p10
            try clear p101
            try clear p2
            try clear q1
            try clear q10
            try clear q101
            obtain ⟨kq,x39_29,rfl,HA,HJ29,BK102,BK103,HB⟩:=hcut
            cases kq with
            | zero=>exact absurd HA.out (by simp [sentence_Right.j2])
            | succ kj29 =>
             have H:=HA.out
             clear HA
             simp only [sentence_Right.j2] at H
             by_cases c32 : x39_29 = true
             ·subst c32
              have H1 : ((sentence_Right_1.f ((rd_T128 l1 x10_1).f1) x10_1).bind fun t105=>(if t105 = true then ((sentence_Right_1.f ((rd_T128 l1 x10_1).f2) x10_1).bind fun t106=>(if t106 = true then (sentence_Right.l0 kj29 a0 l1 (l1.length : Int) (wrap64 (x10_1 + 1))) else (some 2))) else (some 2))) = some r:=by rw [if_pos rfl] at H;exact H
              clear H
              have H:=H1
              clear H1
              replace H:=Option.bind_eq_some_iff.mp H
              obtain ⟨t105,A330,H⟩:=H
              replace H : (if t105 = true then ((sentence_Right_1.f ((rd_T128 l1 x10_1).f2) x10_1).bind fun t106=>(if t106 = true then (sentence_Right.l0 kj29 a0 l1 (l1.length : Int) (wrap64 (x10_1 + 1))) else (some 2))) else (some 2)) = some r:=H
              have A33:=Aside0.mk A330
              clear A330
              by_cases c34 : t105 = true
              ·subst c34
               have H1 : ((sentence_Right_1.f ((rd_T128 l1 x10_1).f2) x10_1).bind fun t106=>(if t106 = true then (sentence_Right.l0 kj29 a0 l1 (l1.length : Int) (wrap64 (x10_1 + 1))) else (some 2))) = some r:=by rw [if_pos rfl] at H;exact H
               clear H
               have H:=H1
               clear H1
               replace H:=Option.bind_eq_some_iff.mp H
               obtain ⟨t106,A350,H⟩:=H
               replace H : (if t106 = true then (sentence_Right.l0 kj29 a0 l1 (l1.length : Int) (wrap64 (x10_1 + 1))) else (some 2)) = some r:=H
               have A35:=Aside0.mk A350
               clear A350
               by_cases c36 : t106 = true
               ·subst c36
                have H1 : (sentence_Right.l0 kj29 a0 l1 (l1.length : Int) (wrap64 (x10_1 + 1))) = some r:=by rw [if_pos rfl] at H;exact H
                clear H
                have H:=H1
                clear H1
                have H':=Aside0.mk H
                clear H
                have hnb37:=NB103_102.out
                have hnc37:=NB102_103.out
                have hcz38_0 : wc.cell? ⟨gb103,0,none⟩ = some (.int .i64 ((rd_T128 l1 x10_1).f0)):=(blk_cell BK103.out 0).trans rfl
                have hcz38_1 : wc.cell? ⟨gb103,1,none⟩ = some (.int .i64 ((rd_T128 l1 x10_1).f1)):=(blk_cell BK103.out 1).trans rfl
                have hcz38_2 : wc.cell? ⟨gb103,2,none⟩ = some (.int .i64 ((rd_T128 l1 x10_1).f2)):=(blk_cell BK103.out 2).trans rfl
                have hfz38_0:=blk_frozen BK103.out 0
                have hfz38_1:=blk_frozen BK103.out 1
                have hfz38_2:=blk_frozen BK103.out 2
                go_wp2_with (first|(go_at_call 93;(with_reducible refine (sentence_Right_1.calls ((rd_T128 l1 x10_1).f1) gb102 #[.int .i64 x10_1] x10_1 true _ ?side1 ?side2 A33.out).mono ?_);(case side1=>exact by (with_reducible repeat (first|refine blk_drewN ?_ _|refine blk_drew ?_|refine blk_alloc ?_ _));exact BK102.out);(case side2=>rfl);rintro e w' ⟨rfl,⟨nd,rfl⟩⟩)|(go_at_call 93;(with_reducible refine (sentence_Right_1.calls ((rd_T128 l1 x10_1).f2) gb102 #[.int .i64 x10_1] x10_1 true _ ?side1 ?side2 A35.out).mono ?_);(case side1=>exact by (with_reducible repeat (first|refine blk_drewN ?_ _|refine blk_drew ?_|refine blk_alloc ?_ _));exact BK102.out);(case side2=>rfl);rintro e w' ⟨rfl,⟨nd,rfl⟩⟩))
                go_roundg kj29
                case measure=>have:=HK1.out;have:=HJ5.out;have:=HJ29.out;omega
                case rel=>exact ⟨(wrap64 (x10_1 + 1)),(by first|rfl|(simp;done)|(simp [*];done)),H',⟨by have:=HK1.out;have:=HJ5.out;have:=HJ29.out;omega⟩,⟨by repeat (first|(with_reducible first|exact HB.out|apply below_alloc|apply pw_below_drewN|apply below_drew1|refine below_set ?_ GE102.out|refine below_set ?_ GE103.out)|exact HB.out)⟩⟩
               ·replace c36:=Bool.eq_false_iff.mpr c36
                subst c36
                have H1 : (some 2) = some r:=by rw [if_neg (show ¬ (false = true) by decide)] at H;exact H
                clear H
                have H:=H1
                clear H1
                obtain rfl:=Option.some.inj H
                have hnb39:=NB103_102.out
                have hnc39:=NB102_103.out
                have hcz40_0 : wc.cell? ⟨gb103,0,none⟩ = some (.int .i64 ((rd_T128 l1 x10_1).f0)):=(blk_cell BK103.out 0).trans rfl
                have hcz40_1 : wc.cell? ⟨gb103,1,none⟩ = some (.int .i64 ((rd_T128 l1 x10_1).f1)):=(blk_cell BK103.out 1).trans rfl
                have hcz40_2 : wc.cell? ⟨gb103,2,none⟩ = some (.int .i64 ((rd_T128 l1 x10_1).f2)):=(blk_cell BK103.out 2).trans rfl
                have hfz40_0:=blk_frozen BK103.out 0
                have hfz40_1:=blk_frozen BK103.out 1
                have hfz40_2:=blk_frozen BK103.out 2
                go_wp2_with (first|(go_at_call 93;(with_reducible refine (sentence_Right_1.calls ((rd_T128 l1 x10_1).f1) gb102 #[.int .i64 x10_1] x10_1 true _ ?side1 ?side2 A33.out).mono ?_);(case side1=>exact by (with_reducible repeat (first|refine blk_drewN ?_ _|refine blk_drew ?_|refine blk_alloc ?_ _));exact BK102.out);(case side2=>rfl);rintro e w' ⟨rfl,⟨nd,rfl⟩⟩)|(go_at_call 93;(with_reducible refine (sentence_Right_1.calls ((rd_T128 l1 x10_1).f2) gb102 #[.int .i64 x10_1] x10_1 false _ ?side1 ?side2 A35.out).mono ?_);(case side1=>exact by (with_reducible repeat (first|refine blk_drewN ?_ _|refine blk_drew ?_|refine blk_alloc ?_ _));exact BK102.out);(case side2=>rfl);rintro e w' ⟨rfl,⟨nd,rfl⟩⟩))
                go_ret
                exact ⟨by first|rfl|(simp [errW_none,errW_some] <;> rfl)|(simp [*,errW_none,errW_some] <;> rfl),by repeat (first|(with_reducible first|exact HB.out|apply below_alloc|apply pw_below_drewN|apply below_drew1|refine below_set ?_ GE102.out|refine below_set ?_ GE103.out)|exact HB.out)⟩
              ·replace c34:=Bool.eq_false_iff.mpr c34
               subst c34
               have H1 : (some 2) = some r:=by rw [if_neg (show ¬ (false = true) by decide)] at H;exact H
               clear H
               have H:=H1
               clear H1
               obtain rfl:=Option.some.inj H
               have hnb41:=NB103_102.out
               have hnc41:=NB102_103.out
               have hcz42_0 : wc.cell? ⟨gb103,0,none⟩ = some (.int .i64 ((rd_T128 l1 x10_1).f0)):=(blk_cell BK103.out 0).trans rfl
               have hcz42_1 : wc.cell? ⟨gb103,1,none⟩ = some (.int .i64 ((rd_T128 l1 x10_1).f1)):=(blk_cell BK103.out 1).trans rfl
               have hcz42_2 : wc.cell? ⟨gb103,2,none⟩ = some (.int .i64 ((rd_T128 l1 x10_1).f2)):=(blk_cell BK103.out 2).trans rfl
               have hfz42_0:=blk_frozen BK103.out 0
               have hfz42_1:=blk_frozen BK103.out 1
               have hfz42_2:=blk_frozen BK103.out 2
               go_wp2_with (first|(go_at_call 93;(with_reducible refine (sentence_Right_1.calls ((rd_T128 l1 x10_1).f1) gb102 #[.int .i64 x10_1] x10_1 false _ ?side1 ?side2 A33.out).mono ?_);(case side1=>exact by (with_reducible repeat (first|refine blk_drewN ?_ _|refine blk_drew ?_|refine blk_alloc ?_ _));exact BK102.out);(case side2=>rfl);rintro e w' ⟨rfl,⟨nd,rfl⟩⟩))
               go_ret
               exact ⟨by first|rfl|(simp [errW_none,errW_some] <;> rfl)|(simp [*,errW_none,errW_some] <;> rfl),by repeat (first|(with_reducible first|exact HB.out|apply below_alloc|apply pw_below_drewN|apply below_drew1|refine below_set ?_ GE102.out|refine below_set ?_ GE103.out)|exact HB.out)⟩
             ·replace c32:=Bool.eq_false_iff.mpr c32
              subst c32
              have H1 : (some 6) = some r:=by rw [if_neg (show ¬ (false = true) by decide)] at H;exact H
              clear H
              have H:=H1
              clear H1
              obtain rfl:=Option.some.inj H
              go_wp2
              go_ret
              exact ⟨by first|rfl|(simp [errW_none,errW_some] <;> rfl)|(simp [*,errW_none,errW_some] <;> rfl),by repeat (first|(with_reducible first|exact HB.out|apply below_alloc|apply pw_below_drewN|apply below_drew1|refine below_set ?_ GE102.out|refine below_set ?_ GE103.out)|exact HB.out)⟩
     ·rw [if_neg c5] at H
      exact absurd H (by simp)
    ·rw [if_neg c4] at H
     exact absurd H (by simp)
   ·rw [if_neg c3] at H
    have c3b0 : decide (x10_1 < (l1.length : Int)) = false:=decide_eq_false c3
    clear c3
    obtain rfl:=Option.some.inj H
    go_wp2
    go_ret
    exact ⟨by first|rfl|(simp [errW_none,errW_some] <;> rfl)|(simp [*,errW_none,errW_some] <;> rfl),by repeat (first|(with_reducible first|exact HB.out|apply below_alloc|apply pw_below_drewN|apply below_drew1)|exact HB.out)⟩
end Go.Proofs.Ytkalcljgcigdgaa.GS
