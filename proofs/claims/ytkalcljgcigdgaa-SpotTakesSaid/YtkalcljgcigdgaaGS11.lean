-- Written by ext.py, a program of this session.
import Derived.Test.YtkalcljgcigdgaaGS0
namespace Go.Proofs.Ytkalcljgcigdgaa.GS
open Go.RowKit Go.Proofs.YtkalcljgcigdgaaW.PrintWords Go.Proofs.YtkalcljgcigdgaaW.PrintLast Go.Proofs.YtkalcljgcigdgaaW.PrintMore
attribute [local go_sem] max2_int min2_int max_two min_two max_three min_three max_four min_four cellIs_set   -- for this text's walks alone
set_option linter.unusedVariables false
set_option linter.unusedSimpArgs false
/-! ### coppicerref_Right: function 75 -/
mutual
def coppicerref_Right.l0 : Nat → Int → List (S128) → Int → Int → Option (Int)
 | 0,_,_,_,_=>none
 | k + 1,x0,x7,x8,x9=>if x9 < x8 then (if 0 ≤ x9 then (if x9 < (x7.length : Int) then (if ((rd_T128 x7 x9).f0) < 1 then (coppicerref_Right.j1 k x0 x9 x7 x8 x9 true ((rd_T128 x7 x9).f0) ((rd_T128 x7 x9).f1) ((rd_T128 x7 x9).f2)) else (coppicerref_Right.j1 k x0 x9 x7 x8 x9 (decide (((rd_T128 x7 x9).f0) > 6)) ((rd_T128 x7 x9).f0) ((rd_T128 x7 x9).f1) ((rd_T128 x7 x9).f2))) else (none)) else (none)) else (some 0)
def coppicerref_Right.j1 : Nat → Int → Int → List (S128) → Int → Int → Bool → Int → Int → Int → Option (Int)
 | 0,_,_,_,_,_,_,_,_,_=>none
 | k + 1,x0,x5,x7,x8,x9,x21,x180000,x180001,x180002=>if x21 = true then (some 6) else (if x180000 = 3 then (if x180001 < 0 then (coppicerref_Right.j2 k x0 x5 x7 x8 x9 true x180000 x180001 x180002) else (coppicerref_Right.j2 k x0 x5 x7 x8 x9 (decide (x180001 ≥ x0)) x180000 x180001 x180002)) else (coppicerref_Right.j2 k x0 x5 x7 x8 x9 false x180000 x180001 x180002))
def coppicerref_Right.j2 : Nat → Int → Int → List (S128) → Int → Int → Bool → Int → Int → Int → Option (Int)
 | 0,_,_,_,_,_,_,_,_,_=>none
 | k + 1,x0,x5,x7,x8,x9,x35,x180000,x180001,x180002=>if x35 = true then (some 2) else (if x180000 ≥ 4 then (if x180001 < 0 then (coppicerref_Right.j3 k x0 x5 x7 x8 x9 true x180000 x180001 x180002) else (coppicerref_Right.j3 k x0 x5 x7 x8 x9 (decide (x180001 ≥ x5)) x180000 x180001 x180002)) else (coppicerref_Right.j3 k x0 x5 x7 x8 x9 false x180000 x180001 x180002))
def coppicerref_Right.j3 : Nat → Int → Int → List (S128) → Int → Int → Bool → Int → Int → Int → Option (Int)
 | 0,_,_,_,_,_,_,_,_,_=>none
 | k + 1,x0,x5,x7,x8,x9,x49,x180000,x180001,x180002=>if x49 = true then (some 2) else (if x180000 = 4 then (if x180002 < 0 then (some 2) else (if x180002 ≥ x5 then (some 2) else (coppicerref_Right.l0 k x0 x7 x8 (wrap64 (x9 + 1))))) else (if x180000 = 5 then (if x180002 < 0 then (some 2) else (if x180002 ≥ x5 then (some 2) else (coppicerref_Right.l0 k x0 x7 x8 (wrap64 (x9 + 1))))) else (coppicerref_Right.l0 k x0 x7 x8 (wrap64 (x9 + 1)))))
end
def coppicerref_Right.f (k : Nat) (a0 : Int) (l1 : List (S128)) : Option (Int):=coppicerref_Right.l0 k a0 l1 (l1.length : Int) 0
theorem coppicerref_Right.mono_l : ∀ k,(∀ y0 y1 y2 y3,LeO (coppicerref_Right.l0 k y0 y1 y2 y3) (coppicerref_Right.l0 (k + 1) y0 y1 y2 y3)) ∧ (∀ y0 y1 y2 y3 y4 y5 y6 y7 y8,LeO (coppicerref_Right.j1 k y0 y1 y2 y3 y4 y5 y6 y7 y8) (coppicerref_Right.j1 (k + 1) y0 y1 y2 y3 y4 y5 y6 y7 y8)) ∧ (∀ y0 y1 y2 y3 y4 y5 y6 y7 y8,LeO (coppicerref_Right.j2 k y0 y1 y2 y3 y4 y5 y6 y7 y8) (coppicerref_Right.j2 (k + 1) y0 y1 y2 y3 y4 y5 y6 y7 y8)) ∧ (∀ y0 y1 y2 y3 y4 y5 y6 y7 y8,LeO (coppicerref_Right.j3 k y0 y1 y2 y3 y4 y5 y6 y7 y8) (coppicerref_Right.j3 (k + 1) y0 y1 y2 y3 y4 y5 y6 y7 y8))
 | 0=>⟨fun _ _ _ _ r h=>by simp [coppicerref_Right.l0] at h,fun _ _ _ _ _ _ _ _ _ r h=>by simp [coppicerref_Right.j1] at h,fun _ _ _ _ _ _ _ _ _ r h=>by simp [coppicerref_Right.j2] at h,fun _ _ _ _ _ _ _ _ _ r h=>by simp [coppicerref_Right.j3] at h⟩
 | k + 1=>by
  obtain ⟨ih0,ih1,ih2,ih3⟩:=coppicerref_Right.mono_l k
  refine ⟨?_,?_,?_,?_⟩
  ·intro y0 y1 y2 y3
   unfold coppicerref_Right.l0
   repeat' first
   | (with_reducible exact ih0 _ _ _ _)
   | (with_reducible exact ih1 _ _ _ _ _ _ _ _ _)
   | (with_reducible exact ih2 _ _ _ _ _ _ _ _ _)
   | (with_reducible exact ih3 _ _ _ _ _ _ _ _ _)
   | (with_reducible exact LeO.refl _)
   | (with_reducible exact LeO.none _)
   | (with_reducible refine LeO.ite ?_ ?_)
   | (with_reducible refine LeO.bind ?_ (fun _=>?_))
   | exact ih0 _ _ _ _
   | exact ih1 _ _ _ _ _ _ _ _ _
   | exact ih2 _ _ _ _ _ _ _ _ _
   | exact ih3 _ _ _ _ _ _ _ _ _
   | exact LeO.none _
   | refine LeO.ite ?_ ?_
   | refine LeO.bind ?_ (fun _=>?_)
  ·intro y0 y1 y2 y3 y4 y5 y6 y7 y8
   unfold coppicerref_Right.j1
   repeat' first
   | (with_reducible exact ih0 _ _ _ _)
   | (with_reducible exact ih1 _ _ _ _ _ _ _ _ _)
   | (with_reducible exact ih2 _ _ _ _ _ _ _ _ _)
   | (with_reducible exact ih3 _ _ _ _ _ _ _ _ _)
   | (with_reducible exact LeO.refl _)
   | (with_reducible exact LeO.none _)
   | (with_reducible refine LeO.ite ?_ ?_)
   | (with_reducible refine LeO.bind ?_ (fun _=>?_))
   | exact ih0 _ _ _ _
   | exact ih1 _ _ _ _ _ _ _ _ _
   | exact ih2 _ _ _ _ _ _ _ _ _
   | exact ih3 _ _ _ _ _ _ _ _ _
   | exact LeO.none _
   | refine LeO.ite ?_ ?_
   | refine LeO.bind ?_ (fun _=>?_)
  ·intro y0 y1 y2 y3 y4 y5 y6 y7 y8
   unfold coppicerref_Right.j2
   repeat' first
   | (with_reducible exact ih0 _ _ _ _)
   | (with_reducible exact ih1 _ _ _ _ _ _ _ _ _)
   | (with_reducible exact ih2 _ _ _ _ _ _ _ _ _)
   | (with_reducible exact ih3 _ _ _ _ _ _ _ _ _)
   | (with_reducible exact LeO.refl _)
   | (with_reducible exact LeO.none _)
   | (with_reducible refine LeO.ite ?_ ?_)
   | (with_reducible refine LeO.bind ?_ (fun _=>?_))
   | exact ih0 _ _ _ _
   | exact ih1 _ _ _ _ _ _ _ _ _
   | exact ih2 _ _ _ _ _ _ _ _ _
   | exact ih3 _ _ _ _ _ _ _ _ _
   | exact LeO.none _
   | refine LeO.ite ?_ ?_
   | refine LeO.bind ?_ (fun _=>?_)
  ·intro y0 y1 y2 y3 y4 y5 y6 y7 y8
   unfold coppicerref_Right.j3
   repeat' first
   | (with_reducible exact ih0 _ _ _ _)
   | (with_reducible exact ih1 _ _ _ _ _ _ _ _ _)
   | (with_reducible exact ih2 _ _ _ _ _ _ _ _ _)
   | (with_reducible exact ih3 _ _ _ _ _ _ _ _ _)
   | (with_reducible exact LeO.refl _)
   | (with_reducible exact LeO.none _)
   | (with_reducible refine LeO.ite ?_ ?_)
   | (with_reducible refine LeO.bind ?_ (fun _=>?_))
   | exact ih0 _ _ _ _
   | exact ih1 _ _ _ _ _ _ _ _ _
   | exact ih2 _ _ _ _ _ _ _ _ _
   | exact ih3 _ _ _ _ _ _ _ _ _
   | exact LeO.none _
   | refine LeO.ite ?_ ?_
   | refine LeO.bind ?_ (fun _=>?_)
theorem coppicerref_Right.mono : ∀ a0 a1 k,LeO (coppicerref_Right.f k a0 a1) (coppicerref_Right.f (k + 1) a0 a1):=by
 intro a0 a1 k
 obtain ⟨ih0,ih1,ih2,ih3⟩:=coppicerref_Right.mono_l k
 unfold coppicerref_Right.f
 repeat' first
   | (with_reducible exact ih0 _ _ _ _)
   | (with_reducible exact ih1 _ _ _ _ _ _ _ _ _)
   | (with_reducible exact ih2 _ _ _ _ _ _ _ _ _)
   | (with_reducible exact ih3 _ _ _ _ _ _ _ _ _)
   | (with_reducible exact LeO.refl _)
   | (with_reducible exact LeO.none _)
   | (with_reducible refine LeO.ite ?_ ?_)
   | (with_reducible refine LeO.bind ?_ (fun _=>?_))
   | exact ih0 _ _ _ _
   | exact ih1 _ _ _ _ _ _ _ _ _
   | exact ih2 _ _ _ _ _ _ _ _ _
   | exact ih3 _ _ _ _ _ _ _ _ _
   | exact LeO.none _
   | refine LeO.ite ?_ ?_
   | refine LeO.bind ?_ (fun _=>?_)
set_option maxHeartbeats 8000000 in
set_option maxRecDepth 100000 in
theorem coppicerref_Right.calls (k : Nat) (a0 : Int) (A1 : Option Addr) (c1 : Nat) (l1 : List (S128)) (r : Int) (w : World) (hr1 : Kd.C k128 w A1 l1.length l1) (hc1 : l1.length ≤ c1) (h : coppicerref_Right.f k a0 l1 = some r) :
  Calls Try.prog 75 #[.int .i64 a0,.slice A1 l1.length c1] w fun e w'=>e = .returned (.int .i64 r) ∧ Below w.heap.size w w':=by
 have hu128:=Try.underlying128
 have HR1:=Aside0.mk hr1
 have HC1:=Aside0.mk hc1
 clear hr1 hc1
 have HB:=Aside0.mk (Below.refl w.heap.size w)
 have H : (coppicerref_Right.l0 k a0 l1 (l1.length : Int) 0) = some r:=h
 clear h
 have H':=Aside0.mk H
 clear H
 go_enter Try.func75,Try.ntmps75
 go_wp2
 go_loopg [9] k (fun kq v9 w'=>∃ (x9_1 : Int),v9 = .int .i64 x9_1 ∧ Aside0 (coppicerref_Right.l0 kq a0 l1 (l1.length : Int) x9_1 = some r) ∧ Aside0 (kq ≤ k) ∧ Aside0 (Below w.heap.size w w'))
 case atStart=>exact ⟨(0),(by first|rfl|(simp;done)|(simp [*];done)),H',⟨Nat.le_refl _⟩,⟨by repeat (first|(with_reducible first|exact HB.out|apply below_alloc|apply pw_below_drewN|apply below_drew1)|exact HB.out)⟩⟩
 case round =>
  clear H'
  try clear c1
  try clear p2
  obtain ⟨x9_1,rfl,HA,HK1,HB⟩:=hrel
  cases gk with
  | zero=>exact absurd HA.out (by simp [coppicerref_Right.l0])
  | succ k1 =>
   have H:=HA.out
   clear HA
   simp only [coppicerref_Right.l0] at H
   by_cases c3 : x9_1 < (l1.length : Int)
   ·rw [if_pos c3] at H
    have c3b0 : decide (x9_1 < (l1.length : Int)) = true:=decide_eq_true c3
    clear c3
    by_cases c4 : 0 ≤ x9_1
    ·rw [if_pos c4] at H
     have c4b0 : decide (0 ≤ x9_1) = true:=decide_eq_true c4
     clear c4
     by_cases c5 : x9_1 < (l1.length : Int)
     ·rw [if_pos c5] at H
      have c5b0 : decide (x9_1 < (l1.length : Int)) = true:=decide_eq_true c5
      clear c5
      have HC6:=Aside0.mk H
      clear H
      have p178 : 0 ≤ (x9_1 : Int):=of_decide_eq_true (by first|(with_reducible assumption)|assumption)
      have q178 : x9_1 < (l1.length : Int):=of_decide_eq_true (by first|(with_reducible assumption)|assumption)
      obtain ⟨ad178,e178,hx178_0,hx178_1,hx178_2⟩:=at_T128 HR1.out x9_1 p178 q178
      cases e178
      replace hx178_0:=(HB.out.cell (World.block_lt_of_cell? w _ hx178_0)).trans hx178_0
      replace hx178_1:=(HB.out.cell (World.block_lt_of_cell? w _ hx178_1)).trans hx178_1
      replace hx178_2:=(HB.out.cell (World.block_lt_of_cell? w _ hx178_2)).trans hx178_2
      replace p178:=eq_true p178
      replace q178:=eq_true q178
      go_upto_region 4 with (first|((with_reducible refine gate_dst (N:=6) rfl ?_);refine box_event ?hg (N:=6) ?hd (cs:=#[.int .i64 0,.int .i64 0,.int .i64 0]) (t:=128) ?hr ?_;(case hd=>rfl);(case hg=>rfl);(case hr=>first|(go_simp;done)|(go_simp;rfl));intro gb179 hg w7 hbox hb;have n0_:=Aside0.mk (below_step (by repeat (first|(with_reducible first|exact HB.out|apply below_alloc|apply pw_below_drewN|apply below_drew1)|exact HB.out)) hb);have n1_:=Aside0.mk (hbox);have n2_:=Aside0.mk ((by rw [hg];exact (below_size (by repeat (first|(with_reducible first|exact HB.out|apply below_alloc|apply pw_below_drewN|apply below_drew1)|exact HB.out))) : w.heap.size ≤ gb179));have n3_:=Aside0.mk ((by rw [hg];exact (below_size (by repeat (first|(with_reducible first|exact HB.out|apply below_alloc|apply pw_below_drewN|apply below_drew1)|exact HB.out))) : w.heap.size ≤ gb179));clear HB;have HB:=n0_;have BK179:=n1_;have GW179:=n2_;have GE179:=n3_;clear n0_ n1_ n2_ n3_;clear hb hbox hg;have hcz8_0 : w7.cell? ⟨gb179,0,none⟩ = some (.int .i64 0):=(blk_cell BK179.out 0).trans rfl;have hcz8_1 : w7.cell? ⟨gb179,1,none⟩ = some (.int .i64 0):=(blk_cell BK179.out 1).trans rfl;have hcz8_2 : w7.cell? ⟨gb179,2,none⟩ = some (.int .i64 0):=(blk_cell BK179.out 2).trans rfl;have hfz8_0:=blk_frozen BK179.out 0;have hfz8_1:=blk_frozen BK179.out 1;have hfz8_2:=blk_frozen BK179.out 2))
      (try simp only [Act.put,List.setIfInBounds_toArray,List.set_cons_zero,List.set_cons_succ])
      go_cut [21] (fun v21 wc=>∃ (kq : Nat) (x21_5 : Bool),v21 = .bool x21_5 ∧ Aside0 (coppicerref_Right.j1 kq a0 x9_1 l1 (l1.length : Int) x9_1 x21_5 ((rd_T128 l1 x9_1).f0) ((rd_T128 l1 x9_1).f1) ((rd_T128 l1 x9_1).f2) = some r) ∧ Aside0 (kq ≤ k1) ∧ Aside0 (wc.heap[gb179]? = some (.cells #[.int .i64 ((rd_T128 l1 x9_1).f0),.int .i64 ((rd_T128 l1 x9_1).f1),.int .i64 ((rd_T128 l1 x9_1).f2)] 128 (0,0))) ∧ Aside0 (Below w.heap.size w wc))
      case first =>
       have H:=HC6.out
       clear HC6
       by_cases c9 : ((rd_T128 l1 x9_1).f0) < 1
       ·rw [if_pos c9] at H
        have c9b0 : decide (((rd_T128 l1 x9_1).f0) < 1) = true:=decide_eq_true c9
        clear c9
        (first|rw [c9b0]|(simp only [i64_w,i32_w];rw [c9b0])|skip)
        have H':=Aside0.mk H
        clear H
        have hcz10_0 : w7.cell? ⟨gb179,0,none⟩ = some (.int .i64 0):=(blk_cell BK179.out 0).trans rfl
        have hcz10_1 : w7.cell? ⟨gb179,1,none⟩ = some (.int .i64 0):=(blk_cell BK179.out 1).trans rfl
        have hcz10_2 : w7.cell? ⟨gb179,2,none⟩ = some (.int .i64 0):=(blk_cell BK179.out 2).trans rfl
        have hfz10_0:=blk_frozen BK179.out 0
        have hfz10_1:=blk_frozen BK179.out 1
        have hfz10_2:=blk_frozen BK179.out 2
        go_wp2
        go_meet
        case rel=>exact ⟨_,(true),(by first|rfl|(simp;done)|(simp [*];done)),H',⟨by have:=HK1.out;first|omega|exact Nat.le_refl _⟩,⟨by (with_reducible repeat (first|refine blk_drewN ?_ _|refine blk_drew ?_|refine blk_alloc ?_ _));refine blk_put (cs:=#[.int .i64 ((rd_T128 l1 x9_1).f0),.int .i64 ((rd_T128 l1 x9_1).f1),.int .i64 0]) ?_ 2 _ rfl;(with_reducible repeat (first|refine blk_drewN ?_ _|refine blk_drew ?_|refine blk_alloc ?_ _));refine blk_put (cs:=#[.int .i64 ((rd_T128 l1 x9_1).f0),.int .i64 0,.int .i64 0]) ?_ 1 _ rfl;(with_reducible repeat (first|refine blk_drewN ?_ _|refine blk_drew ?_|refine blk_alloc ?_ _));refine blk_put (cs:=#[.int .i64 0,.int .i64 0,.int .i64 0]) ?_ 0 _ rfl;(with_reducible repeat (first|refine blk_drewN ?_ _|refine blk_drew ?_|refine blk_alloc ?_ _));exact BK179.out⟩,⟨by repeat (first|(with_reducible first|exact HB.out|apply below_alloc|apply pw_below_drewN|apply below_drew1|refine below_set ?_ GE179.out)|exact HB.out)⟩⟩
       ·rw [if_neg c9] at H
        have c9b0 : decide (((rd_T128 l1 x9_1).f0) < 1) = false:=decide_eq_false c9
        clear c9
        (first|rw [c9b0]|(simp only [i64_w,i32_w];rw [c9b0])|skip)
        have H':=Aside0.mk H
        clear H
        have hcz11_0 : w7.cell? ⟨gb179,0,none⟩ = some (.int .i64 0):=(blk_cell BK179.out 0).trans rfl
        have hcz11_1 : w7.cell? ⟨gb179,1,none⟩ = some (.int .i64 0):=(blk_cell BK179.out 1).trans rfl
        have hcz11_2 : w7.cell? ⟨gb179,2,none⟩ = some (.int .i64 0):=(blk_cell BK179.out 2).trans rfl
        have hfz11_0:=blk_frozen BK179.out 0
        have hfz11_1:=blk_frozen BK179.out 1
        have hfz11_2:=blk_frozen BK179.out 2
        go_wp2
        go_meet
        case rel=>exact ⟨_,(decide (((rd_T128 l1 x9_1).f0) > 6)),(by first|rfl|(simp;done)|(simp [*];done)),H',⟨by have:=HK1.out;first|omega|exact Nat.le_refl _⟩,⟨by (with_reducible repeat (first|refine blk_drewN ?_ _|refine blk_drew ?_|refine blk_alloc ?_ _));refine blk_put (cs:=#[.int .i64 ((rd_T128 l1 x9_1).f0),.int .i64 ((rd_T128 l1 x9_1).f1),.int .i64 0]) ?_ 2 _ rfl;(with_reducible repeat (first|refine blk_drewN ?_ _|refine blk_drew ?_|refine blk_alloc ?_ _));refine blk_put (cs:=#[.int .i64 ((rd_T128 l1 x9_1).f0),.int .i64 0,.int .i64 0]) ?_ 1 _ rfl;(with_reducible repeat (first|refine blk_drewN ?_ _|refine blk_drew ?_|refine blk_alloc ?_ _));refine blk_put (cs:=#[.int .i64 0,.int .i64 0,.int .i64 0]) ?_ 0 _ rfl;(with_reducible repeat (first|refine blk_drewN ?_ _|refine blk_drew ?_|refine blk_alloc ?_ _));exact BK179.out⟩,⟨by repeat (first|(with_reducible first|exact HB.out|apply below_alloc|apply pw_below_drewN|apply below_drew1|refine below_set ?_ GE179.out)|exact HB.out)⟩⟩
      case rest =>
       clear HC6
       try clear c1
       try clear p1
       try clear q1
       try clear hx1
       try clear p2
       try clear c3
       try clear c3b0
       try clear c4
       try clear c4b0
       try clear c5
       try clear c5b0
       try clear c7
       try clear c9
       try clear c9b0
       try clear hcz10_0
       try clear hcz10_1
       try clear hcz10_2
       try clear hcz11_0
       try clear hcz11_1
       try clear hcz11_2
       try clear hcz8_0
       try clear hcz8_1
       try clear hcz8_2
       try clear hfz10_0
       try clear hfz10_1
       try clear hfz10_2
       try clear hfz11_0
       try clear hfz11_1
       try clear hfz11_2
       try clear hfz8_0
       try clear hfz8_1
       try clear hfz8_2
       try clear hx178_0
       try clear hx178_1
       try clear hx178_2
       try clear p178
       try clear p2
       try clear q178
       obtain ⟨kq,x21_5,rfl,HA,HJ5,BK179,HB⟩:=hcut
       cases kq with
       | zero=>exact absurd HA.out (by simp [coppicerref_Right.j1])
       | succ kj5 =>
        have H:=HA.out
        clear HA
        simp only [coppicerref_Right.j1] at H
        by_cases c12 : x21_5 = true
        ·subst c12
         have H1 : (some 6) = some r:=by rw [if_pos rfl] at H;exact H
         clear H
         have H:=H1
         clear H1
         obtain rfl:=Option.some.inj H
         go_wp2
         go_ret
         exact ⟨by first|rfl|(simp [errW_none,errW_some] <;> rfl)|(simp [*,errW_none,errW_some] <;> rfl),by repeat (first|(with_reducible first|exact HB.out|apply below_alloc|apply pw_below_drewN|apply below_drew1|refine below_set ?_ GE179.out)|exact HB.out)⟩
        ·replace c12:=Bool.eq_false_iff.mpr c12
         subst c12
         have H1 : (if ((rd_T128 l1 x9_1).f0) = 3 then (if ((rd_T128 l1 x9_1).f1) < 0 then (coppicerref_Right.j2 kj5 a0 x9_1 l1 (l1.length : Int) x9_1 true ((rd_T128 l1 x9_1).f0) ((rd_T128 l1 x9_1).f1) ((rd_T128 l1 x9_1).f2)) else (coppicerref_Right.j2 kj5 a0 x9_1 l1 (l1.length : Int) x9_1 (decide (((rd_T128 l1 x9_1).f1) ≥ a0)) ((rd_T128 l1 x9_1).f0) ((rd_T128 l1 x9_1).f1) ((rd_T128 l1 x9_1).f2))) else (coppicerref_Right.j2 kj5 a0 x9_1 l1 (l1.length : Int) x9_1 false ((rd_T128 l1 x9_1).f0) ((rd_T128 l1 x9_1).f1) ((rd_T128 l1 x9_1).f2))) = some r:=by rw [if_neg (show ¬ (false = true) by decide)] at H;exact H
         clear H
         have H:=H1
         clear H1
         have HC13:=Aside0.mk H
         clear H
         go_upto_region 6 with (fail)
         go_cut [35] (fun v35 wc=>∃ (kq : Nat) (x35_12 : Bool),v35 = .bool x35_12 ∧ Aside0 (coppicerref_Right.j2 kq a0 x9_1 l1 (l1.length : Int) x9_1 x35_12 ((rd_T128 l1 x9_1).f0) ((rd_T128 l1 x9_1).f1) ((rd_T128 l1 x9_1).f2) = some r) ∧ Aside0 (kq ≤ kj5) ∧ Aside0 (wc.heap[gb179]? = some (.cells #[.int .i64 ((rd_T128 l1 x9_1).f0),.int .i64 ((rd_T128 l1 x9_1).f1),.int .i64 ((rd_T128 l1 x9_1).f2)] 128 (0,0))) ∧ Aside0 (Below w.heap.size w wc))
         case first =>
          have H:=HC13.out
          clear HC13
          by_cases c14 : ((rd_T128 l1 x9_1).f0) = 3
          ·rw [if_pos c14] at H
           have c14b0 : (((rd_T128 l1 x9_1).f0) == 3) = true:=beq_iff_eq.mpr c14
           have c14b1 : (((rd_T128 l1 x9_1).f0) != 3) = false:=bne_eq_false_iff_eq.mpr c14
           clear c14
           (first|rw [c14b0]|(simp only [i64_w,i32_w];rw [c14b0])|skip)
           by_cases c15 : ((rd_T128 l1 x9_1).f1) < 0
           ·rw [if_pos c15] at H
            have c15b0 : decide (((rd_T128 l1 x9_1).f1) < 0) = true:=decide_eq_true c15
            clear c15
            have H':=Aside0.mk H
            clear H
            have hcz16_0 : wc.cell? ⟨gb179,0,none⟩ = some (.int .i64 ((rd_T128 l1 x9_1).f0)):=(blk_cell BK179.out 0).trans rfl
            have hcz16_1 : wc.cell? ⟨gb179,1,none⟩ = some (.int .i64 ((rd_T128 l1 x9_1).f1)):=(blk_cell BK179.out 1).trans rfl
            have hcz16_2 : wc.cell? ⟨gb179,2,none⟩ = some (.int .i64 ((rd_T128 l1 x9_1).f2)):=(blk_cell BK179.out 2).trans rfl
            have hfz16_0:=blk_frozen BK179.out 0
            have hfz16_1:=blk_frozen BK179.out 1
            have hfz16_2:=blk_frozen BK179.out 2
            go_wp2
            go_meet
            case rel=>exact ⟨_,(true),(by first|rfl|(simp;done)|(simp [*];done)),H',⟨by have:=HK1.out;have:=HJ5.out;first|omega|exact Nat.le_refl _⟩,⟨by (with_reducible repeat (first|refine blk_drewN ?_ _|refine blk_drew ?_|refine blk_alloc ?_ _));exact BK179.out⟩,⟨by repeat (first|(with_reducible first|exact HB.out|apply below_alloc|apply pw_below_drewN|apply below_drew1|refine below_set ?_ GE179.out)|exact HB.out)⟩⟩
           ·rw [if_neg c15] at H
            have c15b0 : decide (((rd_T128 l1 x9_1).f1) < 0) = false:=decide_eq_false c15
            clear c15
            have H':=Aside0.mk H
            clear H
            have hcz17_0 : wc.cell? ⟨gb179,0,none⟩ = some (.int .i64 ((rd_T128 l1 x9_1).f0)):=(blk_cell BK179.out 0).trans rfl
            have hcz17_1 : wc.cell? ⟨gb179,1,none⟩ = some (.int .i64 ((rd_T128 l1 x9_1).f1)):=(blk_cell BK179.out 1).trans rfl
            have hcz17_2 : wc.cell? ⟨gb179,2,none⟩ = some (.int .i64 ((rd_T128 l1 x9_1).f2)):=(blk_cell BK179.out 2).trans rfl
            have hfz17_0:=blk_frozen BK179.out 0
            have hfz17_1:=blk_frozen BK179.out 1
            have hfz17_2:=blk_frozen BK179.out 2
            go_wp2
            go_meet
            case rel=>exact ⟨_,(decide (((rd_T128 l1 x9_1).f1) ≥ a0)),(by first|rfl|(simp;done)|(simp [*];done)),H',⟨by have:=HK1.out;have:=HJ5.out;first|omega|exact Nat.le_refl _⟩,⟨by (with_reducible repeat (first|refine blk_drewN ?_ _|refine blk_drew ?_|refine blk_alloc ?_ _));exact BK179.out⟩,⟨by repeat (first|(with_reducible first|exact HB.out|apply below_alloc|apply pw_below_drewN|apply below_drew1|refine below_set ?_ GE179.out)|exact HB.out)⟩⟩
          ·rw [if_neg c14] at H
           have c14b0 : (((rd_T128 l1 x9_1).f0) == 3) = false:=beq_eq_false_iff_ne.mpr c14
           have c14b1 : (((rd_T128 l1 x9_1).f0) != 3) = true:=bne_iff_ne.mpr c14
           (first|rw [c14b0]|(simp only [i64_w,i32_w];rw [c14b0])|skip)
           have H':=Aside0.mk H
           clear H
           have hcz18_0 : wc.cell? ⟨gb179,0,none⟩ = some (.int .i64 ((rd_T128 l1 x9_1).f0)):=(blk_cell BK179.out 0).trans rfl
           have hcz18_1 : wc.cell? ⟨gb179,1,none⟩ = some (.int .i64 ((rd_T128 l1 x9_1).f1)):=(blk_cell BK179.out 1).trans rfl
           have hcz18_2 : wc.cell? ⟨gb179,2,none⟩ = some (.int .i64 ((rd_T128 l1 x9_1).f2)):=(blk_cell BK179.out 2).trans rfl
           have hfz18_0:=blk_frozen BK179.out 0
           have hfz18_1:=blk_frozen BK179.out 1
           have hfz18_2:=blk_frozen BK179.out 2
           go_wp2
           go_meet
           case rel=>exact ⟨_,(false),(by first|rfl|(simp;done)|(simp [*];done)),H',⟨by have:=HK1.out;have:=HJ5.out;first|omega|exact Nat.le_refl _⟩,⟨by (with_reducible repeat (first|refine blk_drewN ?_ _|refine blk_drew ?_|refine blk_alloc ?_ _));exact BK179.out⟩,⟨by repeat (first|(with_reducible first|exact HB.out|apply below_alloc|apply pw_below_drewN|apply below_drew1|refine below_set ?_ GE179.out)|exact HB.out)⟩⟩
         case rest =>
          clear HC13
          try clear c1
          try clear p1
          try clear q1
          try clear hx1
          try clear p2
          try clear c3
          try clear c3b0
          try clear c4
          try clear c4b0
          try clear c5
          try clear c5b0
          try clear c7
          try clear c9
          try clear c9b0
          try clear c12
          try clear c14
          try clear c14b0
          try clear c14b1
          try clear c15
          try clear c15b0
          try clear p17
          try clear q17
          try clear hx17
          try clear hcz10_0
          try clear hcz10_1
          try clear hcz10_2
          try clear hcz11_0
          try clear hcz11_1
          try clear hcz11_2
          try clear hcz16_0
          try clear hcz16_1
          try clear hcz16_2
          try clear hcz17_0
          try clear hcz17_1
          try clear hcz17_2
          try clear hcz18_0
          try clear hcz18_1
          try clear hcz18_2
          try clear hcz8_0
          try clear hcz8_1
          try clear hcz8_2
          try clear hfz10_0
          try clear hfz10_1
          try clear hfz10_2
          try clear hfz11_0
          try clear hfz11_1
          try clear hfz11_2
          try clear hfz16_0
          try clear hfz16_1
          try clear hfz16_2
          try clear hfz17_0
          try clear hfz17_1
          try clear hfz17_2
          try clear hfz18_0
          try clear hfz18_1
          try clear hfz18_2
          try clear hfz8_0
          try clear hfz8_1
          try clear hfz8_2
          try clear hx178_0
          try clear hx178_1
          try clear hx178_2
          try clear p1
          try clear p178
          try clear p2
          try clear q1
          try clear q178
          obtain ⟨kq,x35_12,rfl,HA,HJ12,BK179,HB⟩:=hcut
          cases kq with
          | zero=>exact absurd HA.out (by simp [coppicerref_Right.j2])
          | succ kj12 =>
           have H:=HA.out
           clear HA
           simp only [coppicerref_Right.j2] at H
           by_cases c19 : x35_12 = true
           ·subst c19
            have H1 : (some 2) = some r:=by rw [if_pos rfl] at H;exact H
            clear H
            have H:=H1
            clear H1
            obtain rfl:=Option.some.inj H
            go_wp2
            go_ret
            exact ⟨by first|rfl|(simp [errW_none,errW_some] <;> rfl)|(simp [*,errW_none,errW_some] <;> rfl),by repeat (first|(with_reducible first|exact HB.out|apply below_alloc|apply pw_below_drewN|apply below_drew1|refine below_set ?_ GE179.out)|exact HB.out)⟩
           ·replace c19:=Bool.eq_false_iff.mpr c19
            subst c19
            have H1 : (if ((rd_T128 l1 x9_1).f0) ≥ 4 then (if ((rd_T128 l1 x9_1).f1) < 0 then (coppicerref_Right.j3 kj12 a0 x9_1 l1 (l1.length : Int) x9_1 true ((rd_T128 l1 x9_1).f0) ((rd_T128 l1 x9_1).f1) ((rd_T128 l1 x9_1).f2)) else (coppicerref_Right.j3 kj12 a0 x9_1 l1 (l1.length : Int) x9_1 (decide (((rd_T128 l1 x9_1).f1) ≥ x9_1)) ((rd_T128 l1 x9_1).f0) ((rd_T128 l1 x9_1).f1) ((rd_T128 l1 x9_1).f2))) else (coppicerref_Right.j3 kj12 a0 x9_1 l1 (l1.length : Int) x9_1 false ((rd_T128 l1 x9_1).f0) ((rd_T128 l1 x9_1).f1) ((rd_T128 l1 x9_1).f2))) = some r:=by rw [if_neg (show ¬ (false = true) by decide)] at H;exact H
            clear H
            have H:=H1
            clear H1
            have HC20:=Aside0.mk H
            clear H
            go_upto_region 8 with (fail)
            go_cut [49] (fun v49 wc=>∃ (kq : Nat) (x49_19 : Bool),v49 = .bool x49_19 ∧ Aside0 (coppicerref_Right.j3 kq a0 x9_1 l1 (l1.length : Int) x9_1 x49_19 ((rd_T128 l1 x9_1).f0) ((rd_T128 l1 x9_1).f1) ((rd_T128 l1 x9_1).f2) = some r) ∧ Aside0 (kq ≤ kj12) ∧ Aside0 (wc.heap[gb179]? = some (.cells #[.int .i64 ((rd_T128 l1 x9_1).f0),.int .i64 ((rd_T128 l1 x9_1).f1),.int .i64 ((rd_T128 l1 x9_1).f2)] 128 (0,0))) ∧ Aside0 (Below w.heap.size w wc))
            case first =>
             have H:=HC20.out
             clear HC20
             by_cases c21 : ((rd_T128 l1 x9_1).f0) ≥ 4
             ·rw [if_pos c21] at H
              have c21b0 : decide (4 ≤ ((rd_T128 l1 x9_1).f0)) = true:=decide_eq_true c21
              clear c21
              (first|rw [c21b0]|(simp only [i64_w,i32_w];rw [c21b0])|skip)
              by_cases c22 : ((rd_T128 l1 x9_1).f1) < 0
              ·rw [if_pos c22] at H
               have c22b0 : decide (((rd_T128 l1 x9_1).f1) < 0) = true:=decide_eq_true c22
               clear c22
               have H':=Aside0.mk H
               clear H
               have hcz23_0 : wc.cell? ⟨gb179,0,none⟩ = some (.int .i64 ((rd_T128 l1 x9_1).f0)):=(blk_cell BK179.out 0).trans rfl
               have hcz23_1 : wc.cell? ⟨gb179,1,none⟩ = some (.int .i64 ((rd_T128 l1 x9_1).f1)):=(blk_cell BK179.out 1).trans rfl
               have hcz23_2 : wc.cell? ⟨gb179,2,none⟩ = some (.int .i64 ((rd_T128 l1 x9_1).f2)):=(blk_cell BK179.out 2).trans rfl
               have hfz23_0:=blk_frozen BK179.out 0
               have hfz23_1:=blk_frozen BK179.out 1
               have hfz23_2:=blk_frozen BK179.out 2
               go_wp2
               go_meet
               case rel=>exact ⟨_,(true),(by first|rfl|(simp;done)|(simp [*];done)),H',⟨by have:=HK1.out;have:=HJ5.out;have:=HJ12.out;first|omega|exact Nat.le_refl _⟩,⟨by (with_reducible repeat (first|refine blk_drewN ?_ _|refine blk_drew ?_|refine blk_alloc ?_ _));exact BK179.out⟩,⟨by repeat (first|(with_reducible first|exact HB.out|apply below_alloc|apply pw_below_drewN|apply below_drew1|refine below_set ?_ GE179.out)|exact HB.out)⟩⟩
              ·rw [if_neg c22] at H
               have c22b0 : decide (((rd_T128 l1 x9_1).f1) < 0) = false:=decide_eq_false c22
               clear c22
               have H':=Aside0.mk H
               clear H
               have hcz24_0 : wc.cell? ⟨gb179,0,none⟩ = some (.int .i64 ((rd_T128 l1 x9_1).f0)):=(blk_cell BK179.out 0).trans rfl
               have hcz24_1 : wc.cell? ⟨gb179,1,none⟩ = some (.int .i64 ((rd_T128 l1 x9_1).f1)):=(blk_cell BK179.out 1).trans rfl
               have hcz24_2 : wc.cell? ⟨gb179,2,none⟩ = some (.int .i64 ((rd_T128 l1 x9_1).f2)):=(blk_cell BK179.out 2).trans rfl
               have hfz24_0:=blk_frozen BK179.out 0
               have hfz24_1:=blk_frozen BK179.out 1
               have hfz24_2:=blk_frozen BK179.out 2
               go_wp2
               go_meet
               case rel=>exact ⟨_,(decide (((rd_T128 l1 x9_1).f1) ≥ x9_1)),(by first|rfl|(simp;done)|(simp [*];done)),H',⟨by have:=HK1.out;have:=HJ5.out;have:=HJ12.out;first|omega|exact Nat.le_refl _⟩,⟨by (with_reducible repeat (first|refine blk_drewN ?_ _|refine blk_drew ?_|refine blk_alloc ?_ _));exact BK179.out⟩,⟨by repeat (first|(with_reducible first|exact HB.out|apply below_alloc|apply pw_below_drewN|apply below_drew1|refine below_set ?_ GE179.out)|exact HB.out)⟩⟩
             ·rw [if_neg c21] at H
              have c21b0 : decide (4 ≤ ((rd_T128 l1 x9_1).f0)) = false:=decide_eq_false c21
              clear c21
              (first|rw [c21b0]|(simp only [i64_w,i32_w];rw [c21b0])|skip)
              have H':=Aside0.mk H
              clear H
              have hcz25_0 : wc.cell? ⟨gb179,0,none⟩ = some (.int .i64 ((rd_T128 l1 x9_1).f0)):=(blk_cell BK179.out 0).trans rfl
              have hcz25_1 : wc.cell? ⟨gb179,1,none⟩ = some (.int .i64 ((rd_T128 l1 x9_1).f1)):=(blk_cell BK179.out 1).trans rfl
              have hcz25_2 : wc.cell? ⟨gb179,2,none⟩ = some (.int .i64 ((rd_T128 l1 x9_1).f2)):=(blk_cell BK179.out 2).trans rfl
              have hfz25_0:=blk_frozen BK179.out 0
              have hfz25_1:=blk_frozen BK179.out 1
              have hfz25_2:=blk_frozen BK179.out 2
              go_wp2
              go_meet
              case rel=>exact ⟨_,(false),(by first|rfl|(simp;done)|(simp [*];done)),H',⟨by have:=HK1.out;have:=HJ5.out;have:=HJ12.out;first|omega|exact Nat.le_refl _⟩,⟨by (with_reducible repeat (first|refine blk_drewN ?_ _|refine blk_drew ?_|refine blk_alloc ?_ _));exact BK179.out⟩,⟨by repeat (first|(with_reducible first|exact HB.out|apply below_alloc|apply pw_below_drewN|apply below_drew1|refine below_set ?_ GE179.out)|exact HB.out)⟩⟩
            case rest =>
             clear HC20
             try clear c1
             try clear p1
             try clear q1
             try clear hx1
             try clear c2
             try clear p2
             try clear c3
             try clear c3b0
             try clear c4
             try clear c4b0
             try clear c5
             try clear c5b0
             try clear c7
             try clear c9
             try clear c9b0
             try clear c12
             try clear c14
             try clear c14b0
             try clear c14b1
             try clear c15
             try clear c15b0
             try clear p17
             try clear q17
             try clear hx17
             try clear c19
             try clear c21
             try clear c21b0
             try clear c22
             try clear c22b0
             try clear hcz10_0
             try clear hcz10_1
             try clear hcz10_2
             try clear hcz11_0
             try clear hcz11_1
             try clear hcz11_2
             try clear hcz16_0
             try clear hcz16_1
             try clear hcz16_2
             try clear hcz17_0
             try clear hcz17_1
             try clear hcz17_2
             try clear hcz18_0
             try clear hcz18_1
             try clear hcz18_2
             try clear hcz23_0
             try clear hcz23_1
             try clear hcz23_2
             try clear hcz24_0
             try clear hcz24_1
             try clear hcz24_2
             try clear hcz25_0
             try clear hcz25_1
             try clear hcz25_2
             try clear hcz8_0
             try clear hcz8_1
             try clear hcz8_2
             try clear hfz10_0
             try clear hfz10_1
             try clear hfz10_2
             try clear hfz11_0
             try clear hfz11_1
             try clear hfz11_2
             try clear hfz16_0
             try clear hfz16_1
             try clear hfz16_2
             try clear hfz17_0
             try clear hfz17_1
             try clear hfz17_2
             try clear hfz18_0
             try clear hfz18_1
             try clear hfz18_2
             try clear hfz23_0
             try clear hfz23_1
             try clear hfz23_2
             try clear hfz24_0
             try clear hfz24_1
             try clear hfz24_2
             try clear hfz25_0
             try clear hfz25_1
             try clear hfz25_2
             try clear hfz8_0
             try clear hfz8_1
             try clear hfz8_2
             try clear hx178_0
             try clear hx178_1
             try clear hx178_2
             try clear p1
             try clear p17
             try clear p178
             try clear p2
             try clear q1
             try clear q17
             try clear q178
             obtain ⟨kq,x49_19,rfl,HA,HJ19,BK179,HB⟩:=hcut
             cases kq with
             | zero=>exact absurd HA.out (by simp [coppicerref_Right.j3])
             | succ kj19 =>
              have H:=HA.out
              clear HA
              simp only [coppicerref_Right.j3] at H
              by_cases c26 : x49_19 = true
              ·subst c26
               have H1 : (some 2) = some r:=by rw [if_pos rfl] at H;exact H
               clear H
               have H:=H1
               clear H1
               obtain rfl:=Option.some.inj H
               go_wp2
               go_ret
               exact ⟨by first|rfl|(simp [errW_none,errW_some] <;> rfl)|(simp [*,errW_none,errW_some] <;> rfl),by repeat (first|(with_reducible first|exact HB.out|apply below_alloc|apply pw_below_drewN|apply below_drew1|refine below_set ?_ GE179.out)|exact HB.out)⟩
              ·replace c26:=Bool.eq_false_iff.mpr c26
               subst c26
               have H1 : (if ((rd_T128 l1 x9_1).f0) = 4 then (if ((rd_T128 l1 x9_1).f2) < 0 then (some 2) else (if ((rd_T128 l1 x9_1).f2) ≥ x9_1 then (some 2) else (coppicerref_Right.l0 kj19 a0 l1 (l1.length : Int) (wrap64 (x9_1 + 1))))) else (if ((rd_T128 l1 x9_1).f0) = 5 then (if ((rd_T128 l1 x9_1).f2) < 0 then (some 2) else (if ((rd_T128 l1 x9_1).f2) ≥ x9_1 then (some 2) else (coppicerref_Right.l0 kj19 a0 l1 (l1.length : Int) (wrap64 (x9_1 + 1))))) else (coppicerref_Right.l0 kj19 a0 l1 (l1.length : Int) (wrap64 (x9_1 + 1))))) = some r:=by rw [if_neg (show ¬ (false = true) by decide)] at H;exact H
               clear H
               have H:=H1
               clear H1
               by_cases c27 : ((rd_T128 l1 x9_1).f0) = 4
               ·rw [if_pos c27] at H
                have c27b0 : (((rd_T128 l1 x9_1).f0) == 4) = true:=beq_iff_eq.mpr c27
                have c27b1 : (((rd_T128 l1 x9_1).f0) != 4) = false:=bne_eq_false_iff_eq.mpr c27
                clear c27
                by_cases c28 : ((rd_T128 l1 x9_1).f2) < 0
                ·rw [if_pos c28] at H
                 have c28b0 : decide (((rd_T128 l1 x9_1).f2) < 0) = true:=decide_eq_true c28
                 clear c28
                 obtain rfl:=Option.some.inj H
                 have hcz29_0 : wc.cell? ⟨gb179,0,none⟩ = some (.int .i64 ((rd_T128 l1 x9_1).f0)):=(blk_cell BK179.out 0).trans rfl
                 have hcz29_1 : wc.cell? ⟨gb179,1,none⟩ = some (.int .i64 ((rd_T128 l1 x9_1).f1)):=(blk_cell BK179.out 1).trans rfl
                 have hcz29_2 : wc.cell? ⟨gb179,2,none⟩ = some (.int .i64 ((rd_T128 l1 x9_1).f2)):=(blk_cell BK179.out 2).trans rfl
                 have hfz29_0:=blk_frozen BK179.out 0
                 have hfz29_1:=blk_frozen BK179.out 1
                 have hfz29_2:=blk_frozen BK179.out 2
                 go_wp2
                 go_ret
                 exact ⟨by first|rfl|(simp [errW_none,errW_some] <;> rfl)|(simp [*,errW_none,errW_some] <;> rfl),by repeat (first|(with_reducible first|exact HB.out|apply below_alloc|apply pw_below_drewN|apply below_drew1|refine below_set ?_ GE179.out)|exact HB.out)⟩
                ·rw [if_neg c28] at H
                 have c28b0 : decide (((rd_T128 l1 x9_1).f2) < 0) = false:=decide_eq_false c28
                 clear c28
                 by_cases c30 : ((rd_T128 l1 x9_1).f2) ≥ x9_1
                 ·rw [if_pos c30] at H
                  have c30b0 : decide (x9_1 ≤ ((rd_T128 l1 x9_1).f2)) = true:=decide_eq_true c30
                  clear c30
                  obtain rfl:=Option.some.inj H
                  have hcz31_0 : wc.cell? ⟨gb179,0,none⟩ = some (.int .i64 ((rd_T128 l1 x9_1).f0)):=(blk_cell BK179.out 0).trans rfl
                  have hcz31_1 : wc.cell? ⟨gb179,1,none⟩ = some (.int .i64 ((rd_T128 l1 x9_1).f1)):=(blk_cell BK179.out 1).trans rfl
                  have hcz31_2 : wc.cell? ⟨gb179,2,none⟩ = some (.int .i64 ((rd_T128 l1 x9_1).f2)):=(blk_cell BK179.out 2).trans rfl
                  have hfz31_0:=blk_frozen BK179.out 0
                  have hfz31_1:=blk_frozen BK179.out 1
                  have hfz31_2:=blk_frozen BK179.out 2
                  go_wp2
                  go_ret
                  exact ⟨by first|rfl|(simp [errW_none,errW_some] <;> rfl)|(simp [*,errW_none,errW_some] <;> rfl),by repeat (first|(with_reducible first|exact HB.out|apply below_alloc|apply pw_below_drewN|apply below_drew1|refine below_set ?_ GE179.out)|exact HB.out)⟩
                 ·rw [if_neg c30] at H
                  have c30b0 : decide (x9_1 ≤ ((rd_T128 l1 x9_1).f2)) = false:=decide_eq_false c30
                  clear c30
                  have H':=Aside0.mk H
                  clear H
                  have hcz32_0 : wc.cell? ⟨gb179,0,none⟩ = some (.int .i64 ((rd_T128 l1 x9_1).f0)):=(blk_cell BK179.out 0).trans rfl
                  have hcz32_1 : wc.cell? ⟨gb179,1,none⟩ = some (.int .i64 ((rd_T128 l1 x9_1).f1)):=(blk_cell BK179.out 1).trans rfl
                  have hcz32_2 : wc.cell? ⟨gb179,2,none⟩ = some (.int .i64 ((rd_T128 l1 x9_1).f2)):=(blk_cell BK179.out 2).trans rfl
                  have hfz32_0:=blk_frozen BK179.out 0
                  have hfz32_1:=blk_frozen BK179.out 1
                  have hfz32_2:=blk_frozen BK179.out 2
                  go_wp2
                  go_roundg kj19
                  case measure=>have:=HK1.out;have:=HJ5.out;have:=HJ12.out;have:=HJ19.out;omega
                  case rel=>exact ⟨(wrap64 (x9_1 + 1)),(by first|rfl|(simp;done)|(simp [*];done)),H',⟨by have:=HK1.out;have:=HJ5.out;have:=HJ12.out;have:=HJ19.out;omega⟩,⟨by repeat (first|(with_reducible first|exact HB.out|apply below_alloc|apply pw_below_drewN|apply below_drew1|refine below_set ?_ GE179.out)|exact HB.out)⟩⟩
               ·rw [if_neg c27] at H
                have c27b0 : (((rd_T128 l1 x9_1).f0) == 4) = false:=beq_eq_false_iff_ne.mpr c27
                have c27b1 : (((rd_T128 l1 x9_1).f0) != 4) = true:=bne_iff_ne.mpr c27
                by_cases c33 : ((rd_T128 l1 x9_1).f0) = 5
                ·rw [if_pos c33] at H
                 have c33b0 : (((rd_T128 l1 x9_1).f0) == 5) = true:=beq_iff_eq.mpr c33
                 have c33b1 : (((rd_T128 l1 x9_1).f0) != 5) = false:=bne_eq_false_iff_eq.mpr c33
                 clear c33
                 by_cases c34 : ((rd_T128 l1 x9_1).f2) < 0
                 ·rw [if_pos c34] at H
                  have c34b0 : decide (((rd_T128 l1 x9_1).f2) < 0) = true:=decide_eq_true c34
                  clear c34
                  obtain rfl:=Option.some.inj H
                  have hcz35_0 : wc.cell? ⟨gb179,0,none⟩ = some (.int .i64 ((rd_T128 l1 x9_1).f0)):=(blk_cell BK179.out 0).trans rfl
                  have hcz35_1 : wc.cell? ⟨gb179,1,none⟩ = some (.int .i64 ((rd_T128 l1 x9_1).f1)):=(blk_cell BK179.out 1).trans rfl
                  have hcz35_2 : wc.cell? ⟨gb179,2,none⟩ = some (.int .i64 ((rd_T128 l1 x9_1).f2)):=(blk_cell BK179.out 2).trans rfl
                  have hfz35_0:=blk_frozen BK179.out 0
                  have hfz35_1:=blk_frozen BK179.out 1
                  have hfz35_2:=blk_frozen BK179.out 2
                  go_wp2
                  go_ret
                  exact ⟨by first|rfl|(simp [errW_none,errW_some] <;> rfl)|(simp [*,errW_none,errW_some] <;> rfl),by repeat (first|(with_reducible first|exact HB.out|apply below_alloc|apply pw_below_drewN|apply below_drew1|refine below_set ?_ GE179.out)|exact HB.out)⟩
                 ·rw [if_neg c34] at H
                  have c34b0 : decide (((rd_T128 l1 x9_1).f2) < 0) = false:=decide_eq_false c34
                  clear c34
                  by_cases c36 : ((rd_T128 l1 x9_1).f2) ≥ x9_1
                  ·rw [if_pos c36] at H
                   have c36b0 : decide (x9_1 ≤ ((rd_T128 l1 x9_1).f2)) = true:=decide_eq_true c36
                   clear c36
                   obtain rfl:=Option.some.inj H
                   have hcz37_0 : wc.cell? ⟨gb179,0,none⟩ = some (.int .i64 ((rd_T128 l1 x9_1).f0)):=(blk_cell BK179.out 0).trans rfl
                   have hcz37_1 : wc.cell? ⟨gb179,1,none⟩ = some (.int .i64 ((rd_T128 l1 x9_1).f1)):=(blk_cell BK179.out 1).trans rfl
                   have hcz37_2 : wc.cell? ⟨gb179,2,none⟩ = some (.int .i64 ((rd_T128 l1 x9_1).f2)):=(blk_cell BK179.out 2).trans rfl
                   have hfz37_0:=blk_frozen BK179.out 0
                   have hfz37_1:=blk_frozen BK179.out 1
                   have hfz37_2:=blk_frozen BK179.out 2
                   go_wp2
                   go_ret
                   exact ⟨by first|rfl|(simp [errW_none,errW_some] <;> rfl)|(simp [*,errW_none,errW_some] <;> rfl),by repeat (first|(with_reducible first|exact HB.out|apply below_alloc|apply pw_below_drewN|apply below_drew1|refine below_set ?_ GE179.out)|exact HB.out)⟩
                  ·rw [if_neg c36] at H
                   have c36b0 : decide (x9_1 ≤ ((rd_T128 l1 x9_1).f2)) = false:=decide_eq_false c36
                   clear c36
                   have H':=Aside0.mk H
                   clear H
                   have hcz38_0 : wc.cell? ⟨gb179,0,none⟩ = some (.int .i64 ((rd_T128 l1 x9_1).f0)):=(blk_cell BK179.out 0).trans rfl
                   have hcz38_1 : wc.cell? ⟨gb179,1,none⟩ = some (.int .i64 ((rd_T128 l1 x9_1).f1)):=(blk_cell BK179.out 1).trans rfl
                   have hcz38_2 : wc.cell? ⟨gb179,2,none⟩ = some (.int .i64 ((rd_T128 l1 x9_1).f2)):=(blk_cell BK179.out 2).trans rfl
                   have hfz38_0:=blk_frozen BK179.out 0
                   have hfz38_1:=blk_frozen BK179.out 1
                   have hfz38_2:=blk_frozen BK179.out 2
                   go_wp2
                   go_roundg kj19
                   case measure=>have:=HK1.out;have:=HJ5.out;have:=HJ12.out;have:=HJ19.out;omega
                   case rel=>exact ⟨(wrap64 (x9_1 + 1)),(by first|rfl|(simp;done)|(simp [*];done)),H',⟨by have:=HK1.out;have:=HJ5.out;have:=HJ12.out;have:=HJ19.out;omega⟩,⟨by repeat (first|(with_reducible first|exact HB.out|apply below_alloc|apply pw_below_drewN|apply below_drew1|refine below_set ?_ GE179.out)|exact HB.out)⟩⟩
                ·rw [if_neg c33] at H
                 have c33b0 : (((rd_T128 l1 x9_1).f0) == 5) = false:=beq_eq_false_iff_ne.mpr c33
                 have c33b1 : (((rd_T128 l1 x9_1).f0) != 5) = true:=bne_iff_ne.mpr c33
                 have H':=Aside0.mk H
                 clear H
                 have hcz39_0 : wc.cell? ⟨gb179,0,none⟩ = some (.int .i64 ((rd_T128 l1 x9_1).f0)):=(blk_cell BK179.out 0).trans rfl
                 have hcz39_1 : wc.cell? ⟨gb179,1,none⟩ = some (.int .i64 ((rd_T128 l1 x9_1).f1)):=(blk_cell BK179.out 1).trans rfl
                 have hcz39_2 : wc.cell? ⟨gb179,2,none⟩ = some (.int .i64 ((rd_T128 l1 x9_1).f2)):=(blk_cell BK179.out 2).trans rfl
                 have hfz39_0:=blk_frozen BK179.out 0
                 have hfz39_1:=blk_frozen BK179.out 1
                 have hfz39_2:=blk_frozen BK179.out 2
                 go_wp2
                 go_roundg kj19
                 case measure=>have:=HK1.out;have:=HJ5.out;have:=HJ12.out;have:=HJ19.out;omega
                 case rel=>exact ⟨(wrap64 (x9_1 + 1)),(by first|rfl|(simp;done)|(simp [*];done)),H',⟨by have:=HK1.out;have:=HJ5.out;have:=HJ12.out;have:=HJ19.out;omega⟩,⟨by repeat (first|(with_reducible first|exact HB.out|apply below_alloc|apply pw_below_drewN|apply below_drew1|refine below_set ?_ GE179.out)|exact HB.out)⟩⟩
     ·rw [if_neg c5] at H
      exact absurd H (by simp)
    ·rw [if_neg c4] at H
     exact absurd H (by simp)
   ·rw [if_neg c3] at H
    have c3b0 : decide (x9_1 < (l1.length : Int)) = false:=decide_eq_false c3
    clear c3
    obtain rfl:=Option.some.inj H
    go_wp2
    go_ret
    exact ⟨by first|rfl|(simp [errW_none,errW_some] <;> rfl)|(simp [*,errW_none,errW_some] <;> rfl),by repeat (first|(with_reducible first|exact HB.out|apply below_alloc|apply pw_below_drewN|apply below_drew1)|exact HB.out)⟩
end Go.Proofs.Ytkalcljgcigdgaa.GS
