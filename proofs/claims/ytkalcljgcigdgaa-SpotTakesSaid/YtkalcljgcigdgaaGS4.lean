-- Written by ext.py, a program of this session.
import Derived.Test.YtkalcljgcigdgaaGS0
namespace Go.Proofs.Ytkalcljgcigdgaa.GS
open Go.RowKit Go.Proofs.YtkalcljgcigdgaaW.PrintWords Go.Proofs.YtkalcljgcigdgaaW.PrintLast Go.Proofs.YtkalcljgcigdgaaW.PrintMore
attribute [local go_sem] max2_int min2_int max_two min_two max_three min_three max_four min_four cellIs_set   -- for this text's walks alone
set_option linter.unusedVariables false
set_option linter.unusedSimpArgs false
/-! ### spot_count: function 37 -/
def spot_count.l0 : Nat → List (S128) → Int → List Int → List (S128) → Int → Int → Option (Int)
 | 0,_,_,_,_,_,_=>none
 | k + 1,x0,x1,x5,x11,x12,x13=>if x13 < x12 then (if 0 ≤ x13 then (if x13 < (x11.length : Int) then (if ((rd_T128 x11 x13).f0) = 3 then (if x13 < (x5.length : Int) then (spot_count.l0 k x0 x1 (x5.set (x13 : Int).toNat 1) x11 x12 (wrap64 (x13 + 1))) else (none)) else (if ((rd_T128 x11 x13).f0) = 6 then (if 0 ≤ ((rd_T128 x11 x13).f1) then (if ((rd_T128 x11 x13).f1) < (x5.length : Int) then (if x13 < (x5.length : Int) then (spot_count.l0 k x0 x1 (x5.set (x13 : Int).toNat (rd x5 ((rd_T128 x11 x13).f1))) x11 x12 (wrap64 (x13 + 1))) else (none)) else (none)) else (none)) else (if ((rd_T128 x11 x13).f0) = 4 then (if 0 ≤ ((rd_T128 x11 x13).f1) then (if ((rd_T128 x11 x13).f1) < (x5.length : Int) then (if 0 ≤ ((rd_T128 x11 x13).f2) then (if ((rd_T128 x11 x13).f2) < (x5.length : Int) then (if x13 < (x5.length : Int) then (spot_count.l0 k x0 x1 (x5.set (x13 : Int).toNat (mn (wrap64 ((rd x5 ((rd_T128 x11 x13).f1)) + (rd x5 ((rd_T128 x11 x13).f2)))) x1)) x11 x12 (wrap64 (x13 + 1))) else (none)) else (none)) else (none)) else (none)) else (none)) else (if ((rd_T128 x11 x13).f0) = 5 then (if 0 ≤ ((rd_T128 x11 x13).f1) then (if ((rd_T128 x11 x13).f1) < (x5.length : Int) then (if 0 ≤ ((rd_T128 x11 x13).f2) then (if ((rd_T128 x11 x13).f2) < (x5.length : Int) then (if x13 < (x5.length : Int) then (spot_count.l0 k x0 x1 (x5.set (x13 : Int).toNat (mn (wrap64 ((rd x5 ((rd_T128 x11 x13).f1)) + (rd x5 ((rd_T128 x11 x13).f2)))) x1)) x11 x12 (wrap64 (x13 + 1))) else (none)) else (none)) else (none)) else (none)) else (none)) else (spot_count.l0 k x0 x1 x5 x11 x12 (wrap64 (x13 + 1))))))) else (none)) else (none)) else (if 0 ≤ (wrap64 ((x0.length : Int) - 1)) then (if (wrap64 ((x0.length : Int) - 1)) < (x5.length : Int) then (some (rd x5 (wrap64 ((x0.length : Int) - 1)))) else (none)) else (none))
def spot_count.f (k : Nat) (l0 : List (S128)) (a1 : Int) : Option (Int):=if 0 ≤ (l0.length : Int) then (if ((l0.length : Int) : Int).toNat ≤ 35184372088832 then (spot_count.l0 k l0 a1 (List.replicate ((l0.length : Int) : Int).toNat 0) l0 (l0.length : Int) 0) else (none)) else (none)
theorem spot_count.mono_l : ∀ k,(∀ y0 y1 y2 y3 y4 y5,LeO (spot_count.l0 k y0 y1 y2 y3 y4 y5) (spot_count.l0 (k + 1) y0 y1 y2 y3 y4 y5))
 | 0=>fun _ _ _ _ _ _ r h=>by simp [spot_count.l0] at h
 | k + 1=>by
  have ih0:=spot_count.mono_l k
  ·intro y0 y1 y2 y3 y4 y5
   unfold spot_count.l0
   repeat' first
   | (with_reducible exact ih0 _ _ _ _ _ _)
   | (with_reducible exact LeO.refl _)
   | (with_reducible exact LeO.none _)
   | (with_reducible refine LeO.ite ?_ ?_)
   | (with_reducible refine LeO.bind ?_ (fun _=>?_))
   | exact ih0 _ _ _ _ _ _
   | exact LeO.none _
   | refine LeO.ite ?_ ?_
   | refine LeO.bind ?_ (fun _=>?_)
theorem spot_count.mono : ∀ a0 a1 k,LeO (spot_count.f k a0 a1) (spot_count.f (k + 1) a0 a1):=by
 intro a0 a1 k
 have ih0:=spot_count.mono_l k
 unfold spot_count.f
 repeat' first
   | (with_reducible exact ih0 _ _ _ _ _ _)
   | (with_reducible exact LeO.refl _)
   | (with_reducible exact LeO.none _)
   | (with_reducible refine LeO.ite ?_ ?_)
   | (with_reducible refine LeO.bind ?_ (fun _=>?_))
   | exact ih0 _ _ _ _ _ _
   | exact LeO.none _
   | refine LeO.ite ?_ ?_
   | refine LeO.bind ?_ (fun _=>?_)
def spot_count.T12 : Bool × List (List Nat × List Nat):=(true,[([],[]),([],[]),([],[]),([],[]),([3],[3]),([2,4],[2,4]),([5],[5]),([],[]),([],[]),([8],[8]),([7,9],[7,9]),([10],[10]),([6,11],[6,11]),([],[]),([12,13],[12,13]),([0,1,0,1,2,3,4,5,6,7,8,9,10,11,12,13,14],[0,1]),([15,14,0,1,2,3,4,5,6,7,8,9,10,11,12,13,14],[14,15])])
def spot_count.B12 : List Nat:=[0,0,0,0,8,28,60,0,0,256,896,1920,4092,0,16380,32767,65535]
theorem spot_count.tab12 : rtab .any (opsOf Try.f37 12) = spot_count.T12:=by kernel_rfl
theorem spot_count.bits12 : waitsOk spot_count.T12.2 spot_count.B12 = true:=by kernel_rfl
set_option maxHeartbeats 8000000 in
set_option maxRecDepth 100000 in
theorem spot_count.calls (k : Nat) (A0 : Option Addr) (c0 : Nat) (l0 : List (S128)) (a1 : Int) (r : Int) (w : World) (hr0 : Kd.C k128 w A0 l0.length l0) (hc0 : l0.length ≤ c0) (h : spot_count.f k l0 a1 = some r) :
  Calls Try.prog 37 #[.slice A0 l0.length c0,.int .i64 a1] w fun e w'=>e = .returned (.int .i64 r) ∧ Below w.heap.size w w':=by
 have hu128:=Try.underlying128
 have HR0:=Aside0.mk hr0
 have HC0:=Aside0.mk hc0
 clear hr0 hc0
 have HB:=Aside0.mk (Below.refl w.heap.size w)
 have H : (if 0 ≤ (l0.length : Int) then (if ((l0.length : Int) : Int).toNat ≤ 35184372088832 then (spot_count.l0 k l0 a1 (List.replicate ((l0.length : Int) : Int).toNat 0) l0 (l0.length : Int) 0) else (none)) else (none)) = some r:=h
 clear h
 by_cases c3 : 0 ≤ (l0.length : Int)
 ·rw [if_pos c3] at H
  have c3b0:=eq_true c3
  have c3b1 : decide (0 ≤ (l0.length : Int)) = true:=decide_eq_true c3
  clear c3
  by_cases c4 : ((l0.length : Int) : Int).toNat ≤ 35184372088832
  ·rw [if_pos c4] at H
   have c4b0:=eq_true c4
   have c4b1 : decide (((l0.length : Int) : Int).toNat ≤ 35184372088832) = true:=decide_eq_true c4
   clear c4
   obtain ⟨y108,hy108⟩ : ∃ y_ : List Int,y_ = (List.replicate ((l0.length : Int) : Int).toNat 0):=⟨_,rfl⟩
   replace H : (spot_count.l0 k l0 a1 y108 l0 (l0.length : Int) 0) = some r:=by first|(rw [hy108];with_reducible exact H)|(have H2_:=(Option.bind_some _ _).symm.trans H;rw [hy108];with_reducible exact H2_)|(have H2_:=(Option.bind_some _ _).symm.trans H;with_reducible exact H2_)|with_reducible exact H|(rw [hy108];exact H)|exact H
   have Ny108:=Aside0.mk hy108
   clear hy108
   have H':=Aside0.mk H
   clear H
   go_enter Try.func37,Try.ntmps37
   go_wp2_with (first|((with_reducible refine gate_dst (N:=10) rfl ?_);refine Kd.R_make (Kd.int .i64) _ 3 rfl (N:=10) rfl 24 _ _ rfl (l0.length : Int) rfl rfl Try.underlying24 (.int .i64 0) 8 info3 rfl (by decide) (by omega) 0 (ok:=fun _=>True) (okp:=fun _=>True) rfl (fun _ hk=>hk) trivial (of_decide_eq_true (by first|(with_reducible assumption)|assumption)) (Nat.le_trans (Nat.mul_le_mul_right _ (of_decide_eq_true (by first|(with_reducible assumption)|assumption) : (l0.length : Int).toNat ≤ 35184372088832)) (by omega)) (Below.refl _ _) (Nat.le_refl _) ?_;intro v109 w5 ho6 hb hg_ hnew_;clear hg_ hnew_;(first|rw [← Ny108.out] at ho6|(simp only [Int.reduceToNat] at ho6;rw [← Ny108.out] at ho6));have n0_:=Aside0.mk (Kd.R_lower ho6 (below_size (by repeat (first|(with_reducible first|exact HB.out|apply below_alloc|apply pw_below_drewN|apply below_drew1)|exact HB.out))));have n1_:=Aside0.mk (below_step (by repeat (first|(with_reducible first|exact HB.out|apply below_alloc|apply pw_below_drewN|apply below_drew1)|exact HB.out)) hb);clear HB;have HO110:=n0_;have HB:=n1_;clear n0_ n1_;clear hb ho6))
   go_loopg [13] k (fun kq v13 w'=>∃ (x5_1 : List Int) (x13_1 : Int),v13 = .int .i64 x13_1 ∧ Aside0 (spot_count.l0 kq l0 a1 x5_1 l0 (l0.length : Int) x13_1 = some r) ∧ Aside0 (kq ≤ k) ∧ Aside0 (Kd.R (Kd.int .i64) 3 w' w.heap.size (fun _=>True) v109 x5_1) ∧ Aside0 (Below w.heap.size w w'))
   case atStart=>exact ⟨(y108),(0),(by first|rfl|(simp;done)|(simp [*];done)),H',⟨Nat.le_refl _⟩,⟨by (with_reducible repeat (first|apply Kd.R_alloc|apply Kd.R_drewN|apply Kd.R_drew));exact HO110.out⟩,⟨by repeat (first|(with_reducible first|exact HB.out|apply below_alloc|apply pw_below_drewN|apply below_drew1)|exact HB.out)⟩⟩
   case round =>
    clear H'
    try clear p2
    try clear c3
    try clear c3b0
    try clear c3b1
    try clear c4
    try clear c4b0
    try clear c4b1
    obtain ⟨x5_1,x13_1,rfl,HA,HK1,HO_5,HB⟩:=hrel
    cases gk with
    | zero=>exact absurd HA.out (by simp [spot_count.l0])
    | succ k1 =>
     have H:=HA.out
     clear HA
     simp only [spot_count.l0] at H
     by_cases c7 : x13_1 < (l0.length : Int)
     ·rw [if_pos c7] at H
      have c7b0 : decide (x13_1 < (l0.length : Int)) = true:=decide_eq_true c7
      clear c7
      by_cases c8 : 0 ≤ x13_1
      ·rw [if_pos c8] at H
       have c8b0 : decide (0 ≤ x13_1) = true:=decide_eq_true c8
       clear c8
       by_cases c9 : x13_1 < (l0.length : Int)
       ·rw [if_pos c9] at H
        have c9b0 : decide (x13_1 < (l0.length : Int)) = true:=decide_eq_true c9
        clear c9
        by_cases c10 : ((rd_T128 l0 x13_1).f0) = 3
        ·rw [if_pos c10] at H
         have c10b0 : (((rd_T128 l0 x13_1).f0) == 3) = true:=beq_iff_eq.mpr c10
         have c10b1 : (((rd_T128 l0 x13_1).f0) != 3) = false:=bne_eq_false_iff_eq.mpr c10
         clear c10
         by_cases c11 : x13_1 < (x5_1.length : Int)
         ·rw [if_pos c11] at H
          have c11b0 : decide (x13_1 < (x5_1.length : Int)) = true:=decide_eq_true c11
          clear c11
          obtain ⟨y114,hy114⟩ : ∃ y_ : List Int,y_ = (x5_1.set (x13_1 : Int).toNat 1):=⟨_,rfl⟩
          replace H : (spot_count.l0 k1 l0 a1 y114 l0 (l0.length : Int) (wrap64 (x13_1 + 1))) = some r:=by first|(rw [hy114];with_reducible exact H)|(have H2_:=(Option.bind_some _ _).symm.trans H;rw [hy114];with_reducible exact H2_)|(have H2_:=(Option.bind_some _ _).symm.trans H;with_reducible exact H2_)|with_reducible exact H|(rw [hy114];exact H)|exact H
          have Ny114:=Aside0.mk hy114
          clear hy114
          have H':=Aside0.mk H
          clear H
          have p112 : 0 ≤ (x13_1 : Int):=of_decide_eq_true (by first|(with_reducible assumption)|assumption)
          have q112 : x13_1 < (l0.length : Int):=of_decide_eq_true (by first|(with_reducible assumption)|assumption)
          obtain ⟨ad112,e112,hx112_0,hx112_1,hx112_2⟩:=at_T128 HR0.out x13_1 p112 q112
          cases e112
          replace hx112_0:=(HB.out.cell (World.block_lt_of_cell? w _ hx112_0)).trans hx112_0
          replace hx112_1:=(HB.out.cell (World.block_lt_of_cell? w _ hx112_1)).trans hx112_1
          replace hx112_2:=(HB.out.cell (World.block_lt_of_cell? w _ hx112_2)).trans hx112_2
          replace p112:=eq_true p112
          replace q112:=eq_true q112
          go_wp2_with (first|((with_reducible refine gate_dst (N:=7) rfl ?_);refine box_event ?hg (N:=7) ?hd (cs:=#[.int .i64 0,.int .i64 0,.int .i64 0]) (t:=128) ?hr ?_;(case hd=>rfl);(case hg=>rfl);(case hr=>first|(go_simp;done)|(go_simp;rfl));intro gb113 hg w13 hbox hb;have n0_:=Aside0.mk (Kd.R_below (by (with_reducible repeat (first|apply Kd.R_alloc|apply Kd.R_drewN|apply Kd.R_drew));exact HO_5.out) hb);have n1_:=Aside0.mk (below_step (by repeat (first|(with_reducible first|exact HB.out|apply below_alloc|apply pw_below_drewN|apply below_drew1)|exact HB.out)) hb);have n2_:=Aside0.mk (hbox);have n3_:=Aside0.mk ((by rw [hg];exact (below_size (by repeat (first|(with_reducible first|exact HB.out|apply below_alloc|apply pw_below_drewN|apply below_drew1)|exact HB.out))) : w.heap.size ≤ gb113));have n4_:=Aside0.mk ((by rw [hg];exact (below_size (by repeat (first|(with_reducible first|exact HB.out|apply below_alloc|apply pw_below_drewN|apply below_drew1)|exact HB.out))) : w.heap.size ≤ gb113));clear HO_5;clear HB;have HO_5:=n0_;have HB:=n1_;have BK113:=n2_;have GW113:=n3_;have GE113:=n4_;clear n0_ n1_ n2_ n3_ n4_;clear hb hbox hg;have hcz14_0 : w13.cell? ⟨gb113,0,none⟩ = some (.int .i64 0):=(blk_cell BK113.out 0).trans rfl;have hcz14_1 : w13.cell? ⟨gb113,1,none⟩ = some (.int .i64 0):=(blk_cell BK113.out 1).trans rfl;have hcz14_2 : w13.cell? ⟨gb113,2,none⟩ = some (.int .i64 0):=(blk_cell BK113.out 2).trans rfl;have hfz14_0:=blk_frozen BK113.out 0;have hfz14_1:=blk_frozen BK113.out 1;have hfz14_2:=blk_frozen BK113.out 2)|((with_reducible refine gate_store (t:=128) (p:=7) rfl ?_);refine store_event (t:=128) (p:=7) (v:=?vo_w15) (w1:=(((w13.setCell ⟨gb113,0,none⟩ (.int .i64 ((rd_T128 l0 x13_1).f0))).setCell ⟨gb113,1,none⟩ (.int .i64 ((rd_T128 l0 x13_1).f1))).setCell ⟨gb113,2,none⟩ (.int .i64 ((rd_T128 l0 x13_1).f2)))) ?hg ?ho ?hn ?hr ?_;(case ho=>rfl);(case hg=>rfl);(case hn=>rfl);(case hr=>first|(go_simp;done)|(go_simp;rfl));intro w15 hw;have n0_ : Aside0 (Kd.R (Kd.int .i64) 3 w15 w.heap.size (fun _=>True) v109 x5_1):=⟨(by rw [hw];exact (by (with_reducible repeat (first|apply Kd.R_alloc|apply Kd.R_drewN|apply Kd.R_drew));exact Kd.R_mono (Kd.R_far (p:=⟨gb113,2,none⟩) (Kd.R_far (p:=⟨gb113,1,none⟩) (Kd.R_far (p:=⟨gb113,0,none⟩) (Kd.R_types HO_5.out BK113.out (by decide)) (fun _ hk=>hk.2) (.int .i64 ((rd_T128 l0 x13_1).f0))) (fun _ hk=>hk.2) (.int .i64 ((rd_T128 l0 x13_1).f1))) (fun _ hk=>hk.2) (.int .i64 ((rd_T128 l0 x13_1).f2))) (fun _ hk=>trivial)))⟩;have n1_ : Aside0 (w15.heap[gb113]? = some (.cells #[.int .i64 ((rd_T128 l0 x13_1).f0),.int .i64 ((rd_T128 l0 x13_1).f1),.int .i64 ((rd_T128 l0 x13_1).f2)] 128 (0,0))):=⟨(by rw [hw];exact (by (with_reducible repeat (first|refine blk_drewN ?_ _|refine blk_drew ?_|refine blk_alloc ?_ _));refine blk_put (cs:=#[.int .i64 ((rd_T128 l0 x13_1).f0),.int .i64 ((rd_T128 l0 x13_1).f1),.int .i64 0]) ?_ 2 _ rfl;(with_reducible repeat (first|refine blk_drewN ?_ _|refine blk_drew ?_|refine blk_alloc ?_ _));refine blk_put (cs:=#[.int .i64 ((rd_T128 l0 x13_1).f0),.int .i64 0,.int .i64 0]) ?_ 1 _ rfl;(with_reducible repeat (first|refine blk_drewN ?_ _|refine blk_drew ?_|refine blk_alloc ?_ _));refine blk_put (cs:=#[.int .i64 0,.int .i64 0,.int .i64 0]) ?_ 0 _ rfl;(with_reducible repeat (first|refine blk_drewN ?_ _|refine blk_drew ?_|refine blk_alloc ?_ _));exact BK113.out))⟩;have n2_ : Aside0 (Below w.heap.size w w15):=⟨(by rw [hw];exact (by repeat (first|(with_reducible first|exact HB.out|apply below_alloc|apply pw_below_drewN|apply below_drew1|refine below_set ?_ GE113.out)|exact HB.out)))⟩;clear hw;clear HO_5;clear BK113;clear HB;have HO_5:=n0_;have BK113:=n1_;have HB:=n2_;clear n0_ n1_ n2_;have hcz16_0 : w15.cell? ⟨gb113,0,none⟩ = some (.int .i64 ((rd_T128 l0 x13_1).f0)):=(blk_cell BK113.out 0).trans rfl;have hcz16_1 : w15.cell? ⟨gb113,1,none⟩ = some (.int .i64 ((rd_T128 l0 x13_1).f1)):=(blk_cell BK113.out 1).trans rfl;have hcz16_2 : w15.cell? ⟨gb113,2,none⟩ = some (.int .i64 ((rd_T128 l0 x13_1).f2)):=(blk_cell BK113.out 2).trans rfl;have hfz16_0:=blk_frozen BK113.out 0;have hfz16_1:=blk_frozen BK113.out 1;have hfz16_2:=blk_frozen BK113.out 2;have p12 : 0 ≤ (x13_1 : Int):=of_decide_eq_true (by first|(with_reducible assumption)|assumption);have q12 : (x13_1 : Int) < ((x5_1.length : Int) : Int):=of_decide_eq_true (by first|(with_reducible assumption)|assumption);obtain ⟨go12,co12,eo12,gb12,gl12,cl12,HG12⟩:=Kd.R_form HO_5.out (by omega);(first|cases eo12|(injection eo12 with ea_ en_ ec_;(first|subst ea_|(injection ea_ with ea_;subst ea_));subst ec_;clear en_));have GB12:=Aside0.mk gb12;have GG12:=Aside0.mk HG12;clear gb12 gl12 HG12;obtain ⟨hx12_0,hf12_0⟩:=Kd.R_celln 0 HO_5.out (x13_1 : Int) p12 q12;replace p12:=eq_true p12;replace q12:=eq_true q12;obtain ⟨hy17_,hz17_⟩:=Kd.R_celln 0 HO_5.out (x13_1 : Int) (of_decide_eq_true (by first|(with_reducible assumption)|assumption)) (of_decide_eq_true (by first|(with_reducible assumption)|assumption));have HP17:=Kd.R_putg HO_5.out (x13_1 : Int) 1)|((with_reducible refine gate_store (t:=3) (p:=24) rfl ?_);refine store_event (t:=3) (p:=24) (v:=?vo_w18) (w1:=(w15.setCell ⟨go12,(x13_1 : Int).toNat,none⟩ (.int .i64 1))) ?hg ?ho ?hn ?hr ?_;(case ho=>rfl);(case hg=>rfl);(case hn=>rfl);(case hr=>first|(go_simp;done)|(go_simp;rfl));intro w18 hw;have hg : w15.grownBy w18 (some go12):=(by rw [hw];exact HP17.2);have hp_ : Kd.R (Kd.int .i64) 3 w18 w.heap.size (fun _=>True) (.slice (some ⟨go12,0,none⟩) x5_1.length co12) y114:=(by rw [hw,Ny114.out];exact HP17.1);clear HP17;have n0_:=Aside0.mk (hp_);have n1_:=Aside0.mk (blk_grown (g:=gb113) (o:=.cells #[.int .i64 ((rd_T128 l0 x13_1).f0),.int .i64 ((rd_T128 l0 x13_1).f1),.int .i64 ((rd_T128 l0 x13_1).f2)] 128 (0,0)) (by (with_reducible repeat (first|refine blk_drewN ?_ _|refine blk_drew ?_|refine blk_alloc ?_ _));exact BK113.out) hg (Kd.R_ne HO_5.out BK113.out (by decide)));have n2_:=Aside0.mk ((by rw [hw];exact below_set (HB.out) GB12.out : Below w.heap.size w w18));clear HO_5;clear BK113;clear HB;have HO_5:=n0_;have BK113:=n1_;have HB:=n2_;clear n0_ n1_ n2_;clear hg hw hp_))
          go_roundg k1
          case measure=>have:=HK1.out;omega
          case rel=>exact ⟨(y114),(wrap64 (x13_1 + 1)),(by first|rfl|(simp;done)|(simp [*];done)),H',⟨by have:=HK1.out;omega⟩,⟨by (with_reducible repeat (first|apply Kd.R_alloc|apply Kd.R_drewN|apply Kd.R_drew));exact HO_5.out⟩,⟨by repeat (first|(with_reducible first|exact HB.out|apply below_alloc|apply pw_below_drewN|apply below_drew1|refine below_set ?_ GE113.out)|exact HB.out)⟩⟩
         ·rw [if_neg c11] at H
          exact absurd H (by simp)
        ·rw [if_neg c10] at H
         have c10b0 : (((rd_T128 l0 x13_1).f0) == 3) = false:=beq_eq_false_iff_ne.mpr c10
         have c10b1 : (((rd_T128 l0 x13_1).f0) != 3) = true:=bne_iff_ne.mpr c10
         by_cases c19 : ((rd_T128 l0 x13_1).f0) = 6
         ·rw [if_pos c19] at H
          have c19b0 : (((rd_T128 l0 x13_1).f0) == 6) = true:=beq_iff_eq.mpr c19
          have c19b1 : (((rd_T128 l0 x13_1).f0) != 6) = false:=bne_eq_false_iff_eq.mpr c19
          clear c19
          by_cases c20 : 0 ≤ ((rd_T128 l0 x13_1).f1)
          ·rw [if_pos c20] at H
           have c20b0 : decide (0 ≤ ((rd_T128 l0 x13_1).f1)) = true:=decide_eq_true c20
           clear c20
           by_cases c21 : ((rd_T128 l0 x13_1).f1) < (x5_1.length : Int)
           ·rw [if_pos c21] at H
            have c21b0 : decide (((rd_T128 l0 x13_1).f1) < (x5_1.length : Int)) = true:=decide_eq_true c21
            clear c21
            by_cases c22 : x13_1 < (x5_1.length : Int)
            ·rw [if_pos c22] at H
             have c22b0 : decide (x13_1 < (x5_1.length : Int)) = true:=decide_eq_true c22
             clear c22
             obtain ⟨y116,hy116⟩ : ∃ y_ : List Int,y_ = (x5_1.set (x13_1 : Int).toNat (rd x5_1 ((rd_T128 l0 x13_1).f1))):=⟨_,rfl⟩
             replace H : (spot_count.l0 k1 l0 a1 y116 l0 (l0.length : Int) (wrap64 (x13_1 + 1))) = some r:=by first|(rw [hy116];with_reducible exact H)|(have H2_:=(Option.bind_some _ _).symm.trans H;rw [hy116];with_reducible exact H2_)|(have H2_:=(Option.bind_some _ _).symm.trans H;with_reducible exact H2_)|with_reducible exact H|(rw [hy116];exact H)|exact H
             have Ny116:=Aside0.mk hy116
             clear hy116
             have H':=Aside0.mk H
             clear H
             have p112 : 0 ≤ (x13_1 : Int):=of_decide_eq_true (by first|(with_reducible assumption)|assumption)
             have q112 : x13_1 < (l0.length : Int):=of_decide_eq_true (by first|(with_reducible assumption)|assumption)
             obtain ⟨ad112,e112,hx112_0,hx112_1,hx112_2⟩:=at_T128 HR0.out x13_1 p112 q112
             cases e112
             replace hx112_0:=(HB.out.cell (World.block_lt_of_cell? w _ hx112_0)).trans hx112_0
             replace hx112_1:=(HB.out.cell (World.block_lt_of_cell? w _ hx112_1)).trans hx112_1
             replace hx112_2:=(HB.out.cell (World.block_lt_of_cell? w _ hx112_2)).trans hx112_2
             replace p112:=eq_true p112
             replace q112:=eq_true q112
             go_wp2_with (first|((with_reducible refine gate_dst (N:=7) rfl ?_);refine box_event ?hg (N:=7) ?hd (cs:=#[.int .i64 0,.int .i64 0,.int .i64 0]) (t:=128) ?hr ?_;(case hd=>rfl);(case hg=>rfl);(case hr=>first|(go_simp;done)|(go_simp;rfl));intro gb113 hg w24 hbox hb;have n0_:=Aside0.mk (Kd.R_below (by (with_reducible repeat (first|apply Kd.R_alloc|apply Kd.R_drewN|apply Kd.R_drew));exact HO_5.out) hb);have n1_:=Aside0.mk (below_step (by repeat (first|(with_reducible first|exact HB.out|apply below_alloc|apply pw_below_drewN|apply below_drew1)|exact HB.out)) hb);have n2_:=Aside0.mk (hbox);have n3_:=Aside0.mk ((by rw [hg];exact (below_size (by repeat (first|(with_reducible first|exact HB.out|apply below_alloc|apply pw_below_drewN|apply below_drew1)|exact HB.out))) : w.heap.size ≤ gb113));have n4_:=Aside0.mk ((by rw [hg];exact (below_size (by repeat (first|(with_reducible first|exact HB.out|apply below_alloc|apply pw_below_drewN|apply below_drew1)|exact HB.out))) : w.heap.size ≤ gb113));clear HO_5;clear HB;have HO_5:=n0_;have HB:=n1_;have BK113:=n2_;have GW113:=n3_;have GE113:=n4_;clear n0_ n1_ n2_ n3_ n4_;clear hb hbox hg;have hcz25_0 : w24.cell? ⟨gb113,0,none⟩ = some (.int .i64 0):=(blk_cell BK113.out 0).trans rfl;have hcz25_1 : w24.cell? ⟨gb113,1,none⟩ = some (.int .i64 0):=(blk_cell BK113.out 1).trans rfl;have hcz25_2 : w24.cell? ⟨gb113,2,none⟩ = some (.int .i64 0):=(blk_cell BK113.out 2).trans rfl;have hfz25_0:=blk_frozen BK113.out 0;have hfz25_1:=blk_frozen BK113.out 1;have hfz25_2:=blk_frozen BK113.out 2)|((with_reducible refine gate_store (t:=128) (p:=7) rfl ?_);refine store_event (t:=128) (p:=7) (v:=?vo_w26) (w1:=(((w24.setCell ⟨gb113,0,none⟩ (.int .i64 ((rd_T128 l0 x13_1).f0))).setCell ⟨gb113,1,none⟩ (.int .i64 ((rd_T128 l0 x13_1).f1))).setCell ⟨gb113,2,none⟩ (.int .i64 ((rd_T128 l0 x13_1).f2)))) ?hg ?ho ?hn ?hr ?_;(case ho=>rfl);(case hg=>rfl);(case hn=>rfl);(case hr=>first|(go_simp;done)|(go_simp;rfl));intro w26 hw;have n0_ : Aside0 (Kd.R (Kd.int .i64) 3 w26 w.heap.size (fun _=>True) v109 x5_1):=⟨(by rw [hw];exact (by (with_reducible repeat (first|apply Kd.R_alloc|apply Kd.R_drewN|apply Kd.R_drew));exact Kd.R_mono (Kd.R_far (p:=⟨gb113,2,none⟩) (Kd.R_far (p:=⟨gb113,1,none⟩) (Kd.R_far (p:=⟨gb113,0,none⟩) (Kd.R_types HO_5.out BK113.out (by decide)) (fun _ hk=>hk.2) (.int .i64 ((rd_T128 l0 x13_1).f0))) (fun _ hk=>hk.2) (.int .i64 ((rd_T128 l0 x13_1).f1))) (fun _ hk=>hk.2) (.int .i64 ((rd_T128 l0 x13_1).f2))) (fun _ hk=>trivial)))⟩;have n1_ : Aside0 (w26.heap[gb113]? = some (.cells #[.int .i64 ((rd_T128 l0 x13_1).f0),.int .i64 ((rd_T128 l0 x13_1).f1),.int .i64 ((rd_T128 l0 x13_1).f2)] 128 (0,0))):=⟨(by rw [hw];exact (by (with_reducible repeat (first|refine blk_drewN ?_ _|refine blk_drew ?_|refine blk_alloc ?_ _));refine blk_put (cs:=#[.int .i64 ((rd_T128 l0 x13_1).f0),.int .i64 ((rd_T128 l0 x13_1).f1),.int .i64 0]) ?_ 2 _ rfl;(with_reducible repeat (first|refine blk_drewN ?_ _|refine blk_drew ?_|refine blk_alloc ?_ _));refine blk_put (cs:=#[.int .i64 ((rd_T128 l0 x13_1).f0),.int .i64 0,.int .i64 0]) ?_ 1 _ rfl;(with_reducible repeat (first|refine blk_drewN ?_ _|refine blk_drew ?_|refine blk_alloc ?_ _));refine blk_put (cs:=#[.int .i64 0,.int .i64 0,.int .i64 0]) ?_ 0 _ rfl;(with_reducible repeat (first|refine blk_drewN ?_ _|refine blk_drew ?_|refine blk_alloc ?_ _));exact BK113.out))⟩;have n2_ : Aside0 (Below w.heap.size w w26):=⟨(by rw [hw];exact (by repeat (first|(with_reducible first|exact HB.out|apply below_alloc|apply pw_below_drewN|apply below_drew1|refine below_set ?_ GE113.out)|exact HB.out)))⟩;clear hw;clear HO_5;clear BK113;clear HB;have HO_5:=n0_;have BK113:=n1_;have HB:=n2_;clear n0_ n1_ n2_;have hcz27_0 : w26.cell? ⟨gb113,0,none⟩ = some (.int .i64 ((rd_T128 l0 x13_1).f0)):=(blk_cell BK113.out 0).trans rfl;have hcz27_1 : w26.cell? ⟨gb113,1,none⟩ = some (.int .i64 ((rd_T128 l0 x13_1).f1)):=(blk_cell BK113.out 1).trans rfl;have hcz27_2 : w26.cell? ⟨gb113,2,none⟩ = some (.int .i64 ((rd_T128 l0 x13_1).f2)):=(blk_cell BK113.out 2).trans rfl;have hfz27_0:=blk_frozen BK113.out 0;have hfz27_1:=blk_frozen BK113.out 1;have hfz27_2:=blk_frozen BK113.out 2;obtain ⟨Ao28,co28,eo28⟩:=Kd.R_slice HO_5.out;subst eo28;have p115 : 0 ≤ (((rd_T128 l0 x13_1).f1) : Int):=of_decide_eq_true (by first|(with_reducible assumption)|assumption);have q115 : ((rd_T128 l0 x13_1).f1) < (x5_1.length : Int):=of_decide_eq_true (by first|(with_reducible assumption)|assumption);obtain ⟨ad115,e115,hx115_0⟩:=Kd.at_int (Kd.R_reads' HO_5.out).2.2 ((rd_T128 l0 x13_1).f1) p115 q115;cases e115;replace p115:=eq_true p115;replace q115:=eq_true q115;have p23 : 0 ≤ (x13_1 : Int):=of_decide_eq_true (by first|(with_reducible assumption)|assumption);have q23 : (x13_1 : Int) < ((x5_1.length : Int) : Int):=of_decide_eq_true (by first|(with_reducible assumption)|assumption);obtain ⟨go23,co23,eo23,gb23,gl23,cl23,HG23⟩:=Kd.R_form HO_5.out (by omega);(first|cases eo23|(injection eo23 with ea_ en_ ec_;(first|subst ea_|(injection ea_ with ea_;subst ea_));subst ec_;clear en_));have GB23:=Aside0.mk gb23;have GG23:=Aside0.mk HG23;clear gb23 gl23 HG23;(first|simp only [add_plain] at hx115_0|skip);obtain ⟨hx23_0,hf23_0⟩:=Kd.R_celln 0 HO_5.out (x13_1 : Int) p23 q23;replace p23:=eq_true p23;replace q23:=eq_true q23;obtain ⟨hy29_,hz29_⟩:=Kd.R_celln 0 HO_5.out (x13_1 : Int) (of_decide_eq_true (by first|(with_reducible assumption)|assumption)) (of_decide_eq_true (by first|(with_reducible assumption)|assumption));have HP29:=Kd.R_putg HO_5.out (x13_1 : Int) (rd x5_1 ((rd_T128 l0 x13_1).f1)))|((with_reducible refine gate_store (t:=3) (p:=34) rfl ?_);refine store_event (t:=3) (p:=34) (v:=?vo_w30) (w1:=(w26.setCell ⟨go23,(x13_1 : Int).toNat,none⟩ (.int .i64 (rd x5_1 ((rd_T128 l0 x13_1).f1))))) ?hg ?ho ?hn ?hr ?_;(case ho=>rfl);(case hg=>rfl);(case hn=>rfl);(case hr=>first|(go_simp;done)|(go_simp;rfl));intro w30 hw;have hg : w26.grownBy w30 (some go23):=(by rw [hw];exact HP29.2);have hp_ : Kd.R (Kd.int .i64) 3 w30 w.heap.size (fun _=>True) (.slice (some ⟨go23,0,none⟩) x5_1.length co28) y116:=(by rw [hw,Ny116.out];exact HP29.1);clear HP29;have n0_:=Aside0.mk (hp_);have n1_:=Aside0.mk (blk_grown (g:=gb113) (o:=.cells #[.int .i64 ((rd_T128 l0 x13_1).f0),.int .i64 ((rd_T128 l0 x13_1).f1),.int .i64 ((rd_T128 l0 x13_1).f2)] 128 (0,0)) (by (with_reducible repeat (first|refine blk_drewN ?_ _|refine blk_drew ?_|refine blk_alloc ?_ _));exact BK113.out) hg (Kd.R_ne HO_5.out BK113.out (by decide)));have n2_:=Aside0.mk ((by rw [hw];exact below_set (HB.out) GB23.out : Below w.heap.size w w30));clear HO_5;clear BK113;clear HB;have HO_5:=n0_;have BK113:=n1_;have HB:=n2_;clear n0_ n1_ n2_;clear hg hw hp_))
             go_roundg k1
             case measure=>have:=HK1.out;omega
             case rel=>exact ⟨(y116),(wrap64 (x13_1 + 1)),(by first|rfl|(simp;done)|(simp [*];done)),H',⟨by have:=HK1.out;omega⟩,⟨by (with_reducible repeat (first|apply Kd.R_alloc|apply Kd.R_drewN|apply Kd.R_drew));exact HO_5.out⟩,⟨by repeat (first|(with_reducible first|exact HB.out|apply below_alloc|apply pw_below_drewN|apply below_drew1|refine below_set ?_ GE113.out)|exact HB.out)⟩⟩
            ·rw [if_neg c22] at H
             exact absurd H (by simp)
           ·rw [if_neg c21] at H
            exact absurd H (by simp)
          ·rw [if_neg c20] at H
           exact absurd H (by simp)
         ·rw [if_neg c19] at H
          have c19b0 : (((rd_T128 l0 x13_1).f0) == 6) = false:=beq_eq_false_iff_ne.mpr c19
          have c19b1 : (((rd_T128 l0 x13_1).f0) != 6) = true:=bne_iff_ne.mpr c19
          by_cases c31 : ((rd_T128 l0 x13_1).f0) = 4
          ·rw [if_pos c31] at H
           have c31b0 : (((rd_T128 l0 x13_1).f0) == 4) = true:=beq_iff_eq.mpr c31
           have c31b1 : (((rd_T128 l0 x13_1).f0) != 4) = false:=bne_eq_false_iff_eq.mpr c31
           clear c31
           by_cases c32 : 0 ≤ ((rd_T128 l0 x13_1).f1)
           ·rw [if_pos c32] at H
            have c32b0 : decide (0 ≤ ((rd_T128 l0 x13_1).f1)) = true:=decide_eq_true c32
            clear c32
            by_cases c33 : ((rd_T128 l0 x13_1).f1) < (x5_1.length : Int)
            ·rw [if_pos c33] at H
             have c33b0 : decide (((rd_T128 l0 x13_1).f1) < (x5_1.length : Int)) = true:=decide_eq_true c33
             clear c33
             by_cases c34 : 0 ≤ ((rd_T128 l0 x13_1).f2)
             ·rw [if_pos c34] at H
              have c34b0 : decide (0 ≤ ((rd_T128 l0 x13_1).f2)) = true:=decide_eq_true c34
              clear c34
              by_cases c35 : ((rd_T128 l0 x13_1).f2) < (x5_1.length : Int)
              ·rw [if_pos c35] at H
               have c35b0 : decide (((rd_T128 l0 x13_1).f2) < (x5_1.length : Int)) = true:=decide_eq_true c35
               clear c35
               obtain ⟨ji36,hji36⟩ : ∃ j_ : Int,(mn (wrap64 ((rd x5_1 ((rd_T128 l0 x13_1).f1)) + (rd x5_1 ((rd_T128 l0 x13_1).f2)))) a1) = j_:=⟨_,rfl⟩
               replace H : (if x13_1 < (x5_1.length : Int) then (spot_count.l0 k1 l0 a1 (x5_1.set (x13_1 : Int).toNat (ji36)) l0 (l0.length : Int) (wrap64 (x13_1 + 1))) else (none)) = some r:=by first|(rw [hji36] at H;exact H)|(simp only [hji36] at H ⊢;exact H)
               have hji36_ : (if a1 < (wrap64 ((rd x5_1 ((rd_T128 l0 x13_1).f1)) + (rd x5_1 ((rd_T128 l0 x13_1).f2)))) then a1 else (wrap64 ((rd x5_1 ((rd_T128 l0 x13_1).f1)) + (rd x5_1 ((rd_T128 l0 x13_1).f2))))) = ji36:=hji36
               by_cases c37 : x13_1 < (x5_1.length : Int)
               ·rw [if_pos c37] at H
                have c37b0 : decide (x13_1 < (x5_1.length : Int)) = true:=decide_eq_true c37
                clear c37
                obtain ⟨y119,hy119⟩ : ∃ y_ : List Int,y_ = (x5_1.set (x13_1 : Int).toNat (ji36)):=⟨_,rfl⟩
                replace H : (spot_count.l0 k1 l0 a1 y119 l0 (l0.length : Int) (wrap64 (x13_1 + 1))) = some r:=by first|(rw [hy119];with_reducible exact H)|(have H2_:=(Option.bind_some _ _).symm.trans H;rw [hy119];with_reducible exact H2_)|(have H2_:=(Option.bind_some _ _).symm.trans H;with_reducible exact H2_)|with_reducible exact H|(rw [hy119];exact H)|exact H
                have Ny119:=Aside0.mk hy119
                clear hy119
                have H':=Aside0.mk H
                clear H
                have p112 : 0 ≤ (x13_1 : Int):=of_decide_eq_true (by first|(with_reducible assumption)|assumption)
                have q112 : x13_1 < (l0.length : Int):=of_decide_eq_true (by first|(with_reducible assumption)|assumption)
                obtain ⟨ad112,e112,hx112_0,hx112_1,hx112_2⟩:=at_T128 HR0.out x13_1 p112 q112
                cases e112
                replace hx112_0:=(HB.out.cell (World.block_lt_of_cell? w _ hx112_0)).trans hx112_0
                replace hx112_1:=(HB.out.cell (World.block_lt_of_cell? w _ hx112_1)).trans hx112_1
                replace hx112_2:=(HB.out.cell (World.block_lt_of_cell? w _ hx112_2)).trans hx112_2
                replace p112:=eq_true p112
                replace q112:=eq_true q112
                try go_wp2_with (first|((with_reducible refine gate_dst (N:=7) rfl ?_);refine box_event ?hg (N:=7) ?hd (cs:=#[.int .i64 0,.int .i64 0,.int .i64 0]) (t:=128) ?hr ?_;(case hd=>rfl);(case hg=>rfl);(case hr=>first|(go_simp;done)|(go_simp;rfl));intro gb113 hg w39 hbox hb;have n0_:=Aside0.mk (Kd.R_below (by (with_reducible repeat (first|apply Kd.R_alloc|apply Kd.R_drewN|apply Kd.R_drew));exact HO_5.out) hb);have n1_:=Aside0.mk (below_step (by repeat (first|(with_reducible first|exact HB.out|apply below_alloc|apply pw_below_drewN|apply below_drew1)|exact HB.out)) hb);have n2_:=Aside0.mk (hbox);have n3_:=Aside0.mk ((by rw [hg];exact (below_size (by repeat (first|(with_reducible first|exact HB.out|apply below_alloc|apply pw_below_drewN|apply below_drew1)|exact HB.out))) : w.heap.size ≤ gb113));have n4_:=Aside0.mk ((by rw [hg];exact (below_size (by repeat (first|(with_reducible first|exact HB.out|apply below_alloc|apply pw_below_drewN|apply below_drew1)|exact HB.out))) : w.heap.size ≤ gb113));clear HO_5;clear HB;have HO_5:=n0_;have HB:=n1_;have BK113:=n2_;have GW113:=n3_;have GE113:=n4_;clear n0_ n1_ n2_ n3_ n4_;clear hb hbox hg;have hcz40_0 : w39.cell? ⟨gb113,0,none⟩ = some (.int .i64 0):=(blk_cell BK113.out 0).trans rfl;have hcz40_1 : w39.cell? ⟨gb113,1,none⟩ = some (.int .i64 0):=(blk_cell BK113.out 1).trans rfl;have hcz40_2 : w39.cell? ⟨gb113,2,none⟩ = some (.int .i64 0):=(blk_cell BK113.out 2).trans rfl;have hfz40_0:=blk_frozen BK113.out 0;have hfz40_1:=blk_frozen BK113.out 1;have hfz40_2:=blk_frozen BK113.out 2))
                have n0_ : Aside0 (Kd.R (Kd.int .i64) 3 (((w39.setCell ⟨gb113,0,none⟩ (.int .i64 ((rd_T128 l0 x13_1).f0))).setCell ⟨gb113,1,none⟩ (.int .i64 ((rd_T128 l0 x13_1).f1))).setCell ⟨gb113,2,none⟩ (.int .i64 ((rd_T128 l0 x13_1).f2))) w.heap.size (fun _=>True) v109 x5_1):=⟨by (with_reducible repeat (first|apply Kd.R_alloc|apply Kd.R_drewN|apply Kd.R_drew));exact Kd.R_mono (Kd.R_far (p:=⟨gb113,2,none⟩) (Kd.R_far (p:=⟨gb113,1,none⟩) (Kd.R_far (p:=⟨gb113,0,none⟩) (Kd.R_types HO_5.out BK113.out (by decide)) (fun _ hk=>hk.2) (.int .i64 ((rd_T128 l0 x13_1).f0))) (fun _ hk=>hk.2) (.int .i64 ((rd_T128 l0 x13_1).f1))) (fun _ hk=>hk.2) (.int .i64 ((rd_T128 l0 x13_1).f2))) (fun _ hk=>trivial)⟩
                have n1_ : Aside0 ((((w39.setCell ⟨gb113,0,none⟩ (.int .i64 ((rd_T128 l0 x13_1).f0))).setCell ⟨gb113,1,none⟩ (.int .i64 ((rd_T128 l0 x13_1).f1))).setCell ⟨gb113,2,none⟩ (.int .i64 ((rd_T128 l0 x13_1).f2))).heap[gb113]? = some (.cells #[.int .i64 ((rd_T128 l0 x13_1).f0),.int .i64 ((rd_T128 l0 x13_1).f1),.int .i64 ((rd_T128 l0 x13_1).f2)] 128 (0,0))):=⟨by (with_reducible repeat (first|refine blk_drewN ?_ _|refine blk_drew ?_|refine blk_alloc ?_ _));refine blk_put (cs:=#[.int .i64 ((rd_T128 l0 x13_1).f0),.int .i64 ((rd_T128 l0 x13_1).f1),.int .i64 0]) ?_ 2 _ rfl;(with_reducible repeat (first|refine blk_drewN ?_ _|refine blk_drew ?_|refine blk_alloc ?_ _));refine blk_put (cs:=#[.int .i64 ((rd_T128 l0 x13_1).f0),.int .i64 0,.int .i64 0]) ?_ 1 _ rfl;(with_reducible repeat (first|refine blk_drewN ?_ _|refine blk_drew ?_|refine blk_alloc ?_ _));refine blk_put (cs:=#[.int .i64 0,.int .i64 0,.int .i64 0]) ?_ 0 _ rfl;(with_reducible repeat (first|refine blk_drewN ?_ _|refine blk_drew ?_|refine blk_alloc ?_ _));exact BK113.out⟩
                have n2_ : Aside0 (Below w.heap.size w (((w39.setCell ⟨gb113,0,none⟩ (.int .i64 ((rd_T128 l0 x13_1).f0))).setCell ⟨gb113,1,none⟩ (.int .i64 ((rd_T128 l0 x13_1).f1))).setCell ⟨gb113,2,none⟩ (.int .i64 ((rd_T128 l0 x13_1).f2)))):=⟨by repeat (first|(with_reducible first|exact HB.out|apply below_alloc|apply pw_below_drewN|apply below_drew1|refine below_set ?_ GE113.out)|exact HB.out)⟩
                (try clear HO_5)
                (try clear BK113)
                (try clear HB)
                generalize (((w39.setCell ⟨gb113,0,none⟩ (.int .i64 ((rd_T128 l0 x13_1).f0))).setCell ⟨gb113,1,none⟩ (.int .i64 ((rd_T128 l0 x13_1).f1))).setCell ⟨gb113,2,none⟩ (.int .i64 ((rd_T128 l0 x13_1).f2))) = w41 at n0_ n1_ n2_ ⊢
                have HO_5:=n0_
                have BK113:=n1_
                have HB:=n2_
                clear n0_ n1_ n2_
                have n0_:=Aside0.mk (Kd.R_drew HO_5.out)
                have n1_:=Aside0.mk (blk_drew BK113.out)
                have n2_:=Aside0.mk (below_drew1 HB.out)
                clear HO_5
                clear BK113
                clear HB
                have HO_5:=n0_
                have BK113:=n1_
                have HB:=n2_
                clear n0_ n1_ n2_
                obtain ⟨Ao43,co43,eo43⟩:=Kd.R_slice HO_5.out
                (first|subst eo43|(injection eo43 with f1_ f2_ f3_;have f4_:=f1_.symm;have f5_:=f3_.symm;clear f1_ f2_ f3_;subst f4_;subst f5_))
                have p117 : 0 ≤ (((rd_T128 l0 x13_1).f1) : Int):=of_decide_eq_true (by first|(with_reducible assumption)|assumption)
                have q117 : ((rd_T128 l0 x13_1).f1) < (x5_1.length : Int):=of_decide_eq_true (by first|(with_reducible assumption)|assumption)
                obtain ⟨ad117,e117,hx117_0⟩:=Kd.at_int (Kd.R_reads' HO_5.out).2.2 ((rd_T128 l0 x13_1).f1) p117 q117
                cases e117
                replace p117:=eq_true p117
                replace q117:=eq_true q117
                have p118 : 0 ≤ (((rd_T128 l0 x13_1).f2) : Int):=of_decide_eq_true (by first|(with_reducible assumption)|assumption)
                have q118 : ((rd_T128 l0 x13_1).f2) < (x5_1.length : Int):=of_decide_eq_true (by first|(with_reducible assumption)|assumption)
                obtain ⟨ad118,e118,hx118_0⟩:=Kd.at_int (Kd.R_reads' HO_5.out).2.2 ((rd_T128 l0 x13_1).f2) p118 q118
                obtain rfl : ad117 = ad118:=(by injection e118)
                replace p118:=eq_true p118
                replace q118:=eq_true q118
                have p38 : 0 ≤ (x13_1 : Int):=of_decide_eq_true (by first|(with_reducible assumption)|assumption)
                have q38 : (x13_1 : Int) < ((x5_1.length : Int) : Int):=of_decide_eq_true (by first|(with_reducible assumption)|assumption)
                obtain ⟨go38,co38,eo38,gb38,gl38,cl38,HG38⟩:=Kd.R_form HO_5.out (by omega)
                (first|cases eo38|(injection eo38 with ea_ en_ ec_;(first|subst ea_|(injection ea_ with ea_;subst ea_));subst ec_;clear en_))
                have GB38:=Aside0.mk gb38
                have GG38:=Aside0.mk HG38
                clear gb38 gl38 HG38
                (first|simp only [add_plain] at hx117_0|skip)
                (first|simp only [add_plain] at hx118_0|skip)
                obtain ⟨hx38_0,hf38_0⟩:=Kd.R_celln 0 HO_5.out (x13_1 : Int) p38 q38
                replace p38:=eq_true p38
                replace q38:=eq_true q38
                have HP44:=Kd.R_putn HO_5.out (x13_1 : Int) ji36
                rw [← Ny119.out] at HP44
                have HQ44:=Aside0.mk HP44
                clear HP44
                refine start_ (n:=17) (S:=fun w'=>w'.cell? ⟨gb113,0,none⟩ = some (.int .i64 ((rd_T128 l0 x13_1).f0)) ∧ w'.cell? ⟨gb113,1,none⟩ = some (.int .i64 ((rd_T128 l0 x13_1).f1)) ∧ w'.cell? ⟨gb113,2,none⟩ = some (.int .i64 ((rd_T128 l0 x13_1).f2)) ∧ w'.cell? ⟨go38,(((rd_T128 l0 x13_1).f1)).toNat,none⟩ = some (.int .i64 (rd x5_1 ((rd_T128 l0 x13_1).f1))) ∧ w'.cell? ⟨go38,(((rd_T128 l0 x13_1).f2)).toNat,none⟩ = some (.int .i64 (rd x5_1 ((rd_T128 l0 x13_1).f2)))) (ds:=[16]) #[false,false,false,false,false,false,false,false,false,false,false,false,false,false,false,false,false] (by kernel_rfl) rfl rfl ⟨(blk_cell BK113.out 0).trans rfl,(blk_cell BK113.out 1).trans rfl,(blk_cell BK113.out 2).trans rfl,hx117_0,hx118_0⟩ (fun hHeld=>?_);refine with_tabW spot_count.tab12 spot_count.bits12 (fun HT_ HW_=>?_)
                generalize w41.drew = w42 at HO_5 BK113 HB GG38 HQ44 hf38_0 hx117_0 hx118_0 hx38_0 hHeld ⊢
                refine pure_ (i:=0) (N:=some 38) (v:=?_) (a':=?_) #[true,false,false,false,false,false,false,false,false,false,false,false,false,false,false,false,false] rfl rfl (any_of HT_.out (by kernel_rfl)) (fun _ _ _ h=>h) (Or.inl ⟨by rfl,?_⟩) ?_ ?_
                rotate_left
                ·intro w'
                 go_simp
                 with_reducible rfl
                rotate_left
                ·simp only [Act.put,List.setIfInBounds_toArray,List.set_cons_zero,List.set_cons_succ,i64_w,i32_w]
                 rfl
                refine pure_ (i:=1) (N:=some 39) (v:=?_) (a':=?_) #[true,true,false,false,false,false,false,false,false,false,false,false,false,false,false,false,false] rfl rfl (any_of HT_.out (by kernel_rfl)) (fun _ _ _ h=>h) (Or.inl ⟨by rfl,?_⟩) ?_ ?_
                rotate_left
                ·intro w'
                 go_simp
                 with_reducible rfl
                rotate_left
                ·simp only [Act.put,List.setIfInBounds_toArray,List.set_cons_zero,List.set_cons_succ,i64_w,i32_w]
                 rfl
                refine pure_ (i:=2) (N:=some 40) (v:=?_) (a':=?_) #[true,true,true,false,false,false,false,false,false,false,false,false,false,false,false,false,false] rfl rfl (any_of HT_.out (by kernel_rfl)) (fun _ _ _ h=>h) (Or.inl ⟨by rfl,?_⟩) ?_ ?_
                rotate_left
                ·intro w'
                 go_simp
                 with_reducible rfl
                rotate_left
                ·simp only [Act.put,List.setIfInBounds_toArray,List.set_cons_zero,List.set_cons_succ,i64_w,i32_w]
                 rfl
                refine pure_ (i:=3) (N:=some 41) (v:=?_) (a':=?_) #[true,true,true,true,false,false,false,false,false,false,false,false,false,false,false,false,false] rfl rfl (any_of HT_.out (by kernel_rfl)) (fun _ _ _ h=>h) (Or.inl ⟨by rfl,?_⟩) ?_ ?_
                rotate_left
                ·intro w'
                 go_simp
                 with_reducible rfl
                rotate_left
                ·simp only [Act.put,List.setIfInBounds_toArray,List.set_cons_zero,List.set_cons_succ,i64_w,i32_w]
                 rfl
                refine pure_ (i:=7) (N:=some 45) (v:=?_) (a':=?_) #[true,true,true,true,false,false,false,true,false,false,false,false,false,false,false,false,false] rfl rfl (any_of HT_.out (by kernel_rfl)) (fun _ _ _ h=>h) (Or.inl ⟨by rfl,?_⟩) ?_ ?_
                rotate_left
                ·intro w'
                 go_simp
                 with_reducible rfl
                rotate_left
                ·simp only [Act.put,List.setIfInBounds_toArray,List.set_cons_zero,List.set_cons_succ,i64_w,i32_w]
                 rfl
                refine pure_ (i:=8) (N:=some 46) (v:=?_) (a':=?_) #[true,true,true,true,false,false,false,true,true,false,false,false,false,false,false,false,false] rfl rfl (any_of HT_.out (by kernel_rfl)) (fun _ _ _ h=>h) (Or.inl ⟨by rfl,?_⟩) ?_ ?_
                rotate_left
                ·intro w'
                 go_simp
                 with_reducible rfl
                rotate_left
                ·simp only [Act.put,List.setIfInBounds_toArray,List.set_cons_zero,List.set_cons_succ,i64_w,i32_w]
                 rfl
                refine pure_ (i:=13) (N:=some 51) (v:=?_) (a':=?_) #[true,true,true,true,false,false,false,true,true,false,false,false,false,true,false,false,false] rfl rfl (any_of HT_.out (by kernel_rfl)) (fun _ _ _ h=>h) (Or.inl ⟨by rfl,?_⟩) ?_ ?_
                rotate_left
                ·intro w'
                 go_simp
                 with_reducible rfl
                rotate_left
                ·simp only [Act.put,List.setIfInBounds_toArray,List.set_cons_zero,List.set_cons_succ,i64_w,i32_w]
                 rfl
                refine take_ (i:=4) (N:=some 42) (v:=?_) (a':=?_) #[true,true,true,true,true,false,false,true,true,false,false,false,false,true,false,false,false] rfl rfl (take_ofW HT_.out HW_.out (by kernel_rfl)) (fun _ _ _ h=>h) (Or.inl ⟨by rfl,?_⟩) hHeld ?_ ?_
                rotate_left
                ·rintro w' ⟨s0,s1,s2,s3,s4⟩
                 go_simp
                 with_reducible rfl
                rotate_left
                ·simp only [Act.put,List.setIfInBounds_toArray,List.set_cons_zero,List.set_cons_succ,i64_w,i32_w]
                 rfl
                refine pure_ (i:=5) (N:=some 43) (v:=?_) (a':=?_) #[true,true,true,true,true,true,false,true,true,false,false,false,false,true,false,false,false] rfl rfl (any_of HT_.out (by kernel_rfl)) (fun _ _ _ h=>h) (Or.inl ⟨by rfl,?_⟩) ?_ ?_
                rotate_left
                ·intro w'
                 go_simp
                 with_reducible rfl
                rotate_left
                ·simp only [Act.put,List.setIfInBounds_toArray,List.set_cons_zero,List.set_cons_succ,i64_w,i32_w]
                 rfl
                refine take_ (i:=6) (N:=some 44) (v:=?_) (a':=?_) #[true,true,true,true,true,true,true,true,true,false,false,false,false,true,false,false,false] rfl rfl (take_ofW HT_.out HW_.out (by kernel_rfl)) (fun _ _ _ h=>h) (Or.inl ⟨by rfl,?_⟩) hHeld ?_ ?_
                rotate_left
                ·rintro w' ⟨s0,s1,s2,s3,s4⟩
                 go_simp
                 with_reducible rfl
                rotate_left
                ·simp only [Act.put,List.setIfInBounds_toArray,List.set_cons_zero,List.set_cons_succ,i64_w,i32_w]
                 rfl
                refine take_ (i:=9) (N:=some 47) (v:=?_) (a':=?_) #[true,true,true,true,true,true,true,true,true,true,false,false,false,true,false,false,false] rfl rfl (take_ofW HT_.out HW_.out (by kernel_rfl)) (fun _ _ _ h=>h) (Or.inl ⟨by rfl,?_⟩) hHeld ?_ ?_
                rotate_left
                ·rintro w' ⟨s0,s1,s2,s3,s4⟩
                 go_simp
                 with_reducible rfl
                rotate_left
                ·simp only [Act.put,List.setIfInBounds_toArray,List.set_cons_zero,List.set_cons_succ,i64_w,i32_w]
                 rfl
                refine pure_ (i:=10) (N:=some 48) (v:=?_) (a':=?_) #[true,true,true,true,true,true,true,true,true,true,true,false,false,true,false,false,false] rfl rfl (any_of HT_.out (by kernel_rfl)) (fun _ _ _ h=>h) (Or.inl ⟨by rfl,?_⟩) ?_ ?_
                rotate_left
                ·intro w'
                 go_simp
                 with_reducible rfl
                rotate_left
                ·simp only [Act.put,List.setIfInBounds_toArray,List.set_cons_zero,List.set_cons_succ,i64_w,i32_w]
                 rfl
                refine take_ (i:=11) (N:=some 49) (v:=?_) (a':=?_) #[true,true,true,true,true,true,true,true,true,true,true,true,false,true,false,false,false] rfl rfl (take_ofW HT_.out HW_.out (by kernel_rfl)) (fun _ _ _ h=>h) (Or.inl ⟨by rfl,?_⟩) hHeld ?_ ?_
                rotate_left
                ·rintro w' ⟨s0,s1,s2,s3,s4⟩
                 go_simp
                 with_reducible rfl
                rotate_left
                ·simp only [Act.put,List.setIfInBounds_toArray,List.set_cons_zero,List.set_cons_succ,i64_w,i32_w]
                 rfl
                refine pure_ (i:=12) (N:=some 50) (v:=?_) (a':=?_) #[true,true,true,true,true,true,true,true,true,true,true,true,true,true,false,false,false] rfl rfl (any_of HT_.out (by kernel_rfl)) (fun _ _ _ h=>h) (Or.inl ⟨by rfl,?_⟩) ?_ ?_
                rotate_left
                ·intro w'
                 go_simp
                 with_reducible rfl
                rotate_left
                ·simp only [Act.put,List.setIfInBounds_toArray,List.set_cons_zero,List.set_cons_succ,i64_w,i32_w]
                 rfl
                refine pure_ (i:=14) (N:=some 52) (v:=?_) (a':=?_) #[true,true,true,true,true,true,true,true,true,true,true,true,true,true,true,false,false] rfl rfl (any_of HT_.out (by kernel_rfl)) (fun _ _ _ h=>h) (Or.inl ⟨by rfl,?_⟩) ?_ ?_
                rotate_left
                ·intro w'
                 go_simp
                 with_reducible rfl
                rotate_left
                ·simp only [Act.put,List.setIfInBounds_toArray,List.set_cons_zero,List.set_cons_succ,i64_w,i32_w]
                 rfl
                refine pure_ (i:=15) (N:=some 53) (v:=?_) (a':=?_) #[true,true,true,true,true,true,true,true,true,true,true,true,true,true,true,true,false] rfl rfl (any_of HT_.out (by kernel_rfl)) (fun _ _ _ h=>h) (Or.inl ⟨by rfl,?_⟩) ?_ ?_
                rotate_left
                ·intro w'
                 go_simp
                 with_reducible rfl
                rotate_left
                ·simp only [Act.put,List.setIfInBounds_toArray,List.set_cons_zero,List.set_cons_succ,i64_w,i32_w]
                 rfl
                refine last_ (i:=16) (N:=none) #[true,true,true,true,true,true,true,true,true,true,true,true,true,true,true,true,true] rfl rfl (one_of HT_.out (by kernel_rfl)) (by decide) (fun K hK=>?_)
                refine skip_ (w1:=?_) (by rfl) rfl ?_ ?_
                rotate_left
                ·go_simp
                 rfl
                refine hK.out _ _ ?_
                clear hK K
                refine done_ (done_of HT_.out (by kernel_rfl)) ?_
                try go_wp2
                first|go_roundg k1|((simp only [← hji36]);go_roundg k1)
                case measure=>have:=HK1.out;omega
                case rel=>exact ⟨(y119),(wrap64 (x13_1 + 1)),(by first|rfl|(simp;done)|(simp [*];done)),(by first|exact H'|((simp only [hji36]);exact H')|(have h_:=H'.out;simp only [← hji36] at h_ ⊢;exact ⟨h_⟩)),⟨by have:=HK1.out;omega⟩,⟨by (with_reducible repeat (first|apply Kd.R_alloc|apply Kd.R_drewN|apply Kd.R_drew));exact HQ44.out⟩,⟨by repeat (first|(with_reducible first|exact HB.out|apply below_alloc|apply pw_below_drewN|apply below_drew1|refine below_set ?_ GB38.out|refine below_set ?_ GE113.out)|exact HB.out)⟩⟩
               ·rw [if_neg c37] at H
                exact absurd H (by simp)
              ·rw [if_neg c35] at H
               exact absurd H (by simp)
             ·rw [if_neg c34] at H
              exact absurd H (by simp)
            ·rw [if_neg c33] at H
             exact absurd H (by simp)
           ·rw [if_neg c32] at H
            exact absurd H (by simp)
          ·rw [if_neg c31] at H
           have c31b0 : (((rd_T128 l0 x13_1).f0) == 4) = false:=beq_eq_false_iff_ne.mpr c31
           have c31b1 : (((rd_T128 l0 x13_1).f0) != 4) = true:=bne_iff_ne.mpr c31
           by_cases c45 : ((rd_T128 l0 x13_1).f0) = 5
           ·rw [if_pos c45] at H
            have c45b0 : (((rd_T128 l0 x13_1).f0) == 5) = true:=beq_iff_eq.mpr c45
            have c45b1 : (((rd_T128 l0 x13_1).f0) != 5) = false:=bne_eq_false_iff_eq.mpr c45
            clear c45
            by_cases c46 : 0 ≤ ((rd_T128 l0 x13_1).f1)
            ·rw [if_pos c46] at H
             have c46b0 : decide (0 ≤ ((rd_T128 l0 x13_1).f1)) = true:=decide_eq_true c46
             clear c46
             by_cases c47 : ((rd_T128 l0 x13_1).f1) < (x5_1.length : Int)
             ·rw [if_pos c47] at H
              have c47b0 : decide (((rd_T128 l0 x13_1).f1) < (x5_1.length : Int)) = true:=decide_eq_true c47
              clear c47
              by_cases c48 : 0 ≤ ((rd_T128 l0 x13_1).f2)
              ·rw [if_pos c48] at H
               have c48b0 : decide (0 ≤ ((rd_T128 l0 x13_1).f2)) = true:=decide_eq_true c48
               clear c48
               by_cases c49 : ((rd_T128 l0 x13_1).f2) < (x5_1.length : Int)
               ·rw [if_pos c49] at H
                have c49b0 : decide (((rd_T128 l0 x13_1).f2) < (x5_1.length : Int)) = true:=decide_eq_true c49
                clear c49
                obtain ⟨ji50,hji50⟩ : ∃ j_ : Int,(mn (wrap64 ((rd x5_1 ((rd_T128 l0 x13_1).f1)) + (rd x5_1 ((rd_T128 l0 x13_1).f2)))) a1) = j_:=⟨_,rfl⟩
                replace H : (if x13_1 < (x5_1.length : Int) then (spot_count.l0 k1 l0 a1 (x5_1.set (x13_1 : Int).toNat (ji50)) l0 (l0.length : Int) (wrap64 (x13_1 + 1))) else (none)) = some r:=by first|(rw [hji50] at H;exact H)|(simp only [hji50] at H ⊢;exact H)
                have hji50_ : (if a1 < (wrap64 ((rd x5_1 ((rd_T128 l0 x13_1).f1)) + (rd x5_1 ((rd_T128 l0 x13_1).f2)))) then a1 else (wrap64 ((rd x5_1 ((rd_T128 l0 x13_1).f1)) + (rd x5_1 ((rd_T128 l0 x13_1).f2))))) = ji50:=hji50
                by_cases c51 : x13_1 < (x5_1.length : Int)
                ·rw [if_pos c51] at H
                 have c51b0 : decide (x13_1 < (x5_1.length : Int)) = true:=decide_eq_true c51
                 clear c51
                 obtain ⟨y122,hy122⟩ : ∃ y_ : List Int,y_ = (x5_1.set (x13_1 : Int).toNat (ji50)):=⟨_,rfl⟩
                 replace H : (spot_count.l0 k1 l0 a1 y122 l0 (l0.length : Int) (wrap64 (x13_1 + 1))) = some r:=by first|(rw [hy122];with_reducible exact H)|(have H2_:=(Option.bind_some _ _).symm.trans H;rw [hy122];with_reducible exact H2_)|(have H2_:=(Option.bind_some _ _).symm.trans H;with_reducible exact H2_)|with_reducible exact H|(rw [hy122];exact H)|exact H
                 have Ny122:=Aside0.mk hy122
                 clear hy122
                 have H':=Aside0.mk H
                 clear H
                 have p112 : 0 ≤ (x13_1 : Int):=of_decide_eq_true (by first|(with_reducible assumption)|assumption)
                 have q112 : x13_1 < (l0.length : Int):=of_decide_eq_true (by first|(with_reducible assumption)|assumption)
                 obtain ⟨ad112,e112,hx112_0,hx112_1,hx112_2⟩:=at_T128 HR0.out x13_1 p112 q112
                 cases e112
                 replace hx112_0:=(HB.out.cell (World.block_lt_of_cell? w _ hx112_0)).trans hx112_0
                 replace hx112_1:=(HB.out.cell (World.block_lt_of_cell? w _ hx112_1)).trans hx112_1
                 replace hx112_2:=(HB.out.cell (World.block_lt_of_cell? w _ hx112_2)).trans hx112_2
                 replace p112:=eq_true p112
                 replace q112:=eq_true q112
                 try go_wp2_with (first|((with_reducible refine gate_dst (N:=7) rfl ?_);refine box_event ?hg (N:=7) ?hd (cs:=#[.int .i64 0,.int .i64 0,.int .i64 0]) (t:=128) ?hr ?_;(case hd=>rfl);(case hg=>rfl);(case hr=>first|(go_simp;done)|(go_simp;rfl));intro gb113 hg w53 hbox hb;have n0_:=Aside0.mk (Kd.R_below (by (with_reducible repeat (first|apply Kd.R_alloc|apply Kd.R_drewN|apply Kd.R_drew));exact HO_5.out) hb);have n1_:=Aside0.mk (below_step (by repeat (first|(with_reducible first|exact HB.out|apply below_alloc|apply pw_below_drewN|apply below_drew1)|exact HB.out)) hb);have n2_:=Aside0.mk (hbox);have n3_:=Aside0.mk ((by rw [hg];exact (below_size (by repeat (first|(with_reducible first|exact HB.out|apply below_alloc|apply pw_below_drewN|apply below_drew1)|exact HB.out))) : w.heap.size ≤ gb113));have n4_:=Aside0.mk ((by rw [hg];exact (below_size (by repeat (first|(with_reducible first|exact HB.out|apply below_alloc|apply pw_below_drewN|apply below_drew1)|exact HB.out))) : w.heap.size ≤ gb113));clear HO_5;clear HB;have HO_5:=n0_;have HB:=n1_;have BK113:=n2_;have GW113:=n3_;have GE113:=n4_;clear n0_ n1_ n2_ n3_ n4_;clear hb hbox hg;have hcz54_0 : w53.cell? ⟨gb113,0,none⟩ = some (.int .i64 0):=(blk_cell BK113.out 0).trans rfl;have hcz54_1 : w53.cell? ⟨gb113,1,none⟩ = some (.int .i64 0):=(blk_cell BK113.out 1).trans rfl;have hcz54_2 : w53.cell? ⟨gb113,2,none⟩ = some (.int .i64 0):=(blk_cell BK113.out 2).trans rfl;have hfz54_0:=blk_frozen BK113.out 0;have hfz54_1:=blk_frozen BK113.out 1;have hfz54_2:=blk_frozen BK113.out 2))
                 have n0_ : Aside0 (Kd.R (Kd.int .i64) 3 (((w53.setCell ⟨gb113,0,none⟩ (.int .i64 ((rd_T128 l0 x13_1).f0))).setCell ⟨gb113,1,none⟩ (.int .i64 ((rd_T128 l0 x13_1).f1))).setCell ⟨gb113,2,none⟩ (.int .i64 ((rd_T128 l0 x13_1).f2))) w.heap.size (fun _=>True) v109 x5_1):=⟨by (with_reducible repeat (first|apply Kd.R_alloc|apply Kd.R_drewN|apply Kd.R_drew));exact Kd.R_mono (Kd.R_far (p:=⟨gb113,2,none⟩) (Kd.R_far (p:=⟨gb113,1,none⟩) (Kd.R_far (p:=⟨gb113,0,none⟩) (Kd.R_types HO_5.out BK113.out (by decide)) (fun _ hk=>hk.2) (.int .i64 ((rd_T128 l0 x13_1).f0))) (fun _ hk=>hk.2) (.int .i64 ((rd_T128 l0 x13_1).f1))) (fun _ hk=>hk.2) (.int .i64 ((rd_T128 l0 x13_1).f2))) (fun _ hk=>trivial)⟩
                 have n1_ : Aside0 ((((w53.setCell ⟨gb113,0,none⟩ (.int .i64 ((rd_T128 l0 x13_1).f0))).setCell ⟨gb113,1,none⟩ (.int .i64 ((rd_T128 l0 x13_1).f1))).setCell ⟨gb113,2,none⟩ (.int .i64 ((rd_T128 l0 x13_1).f2))).heap[gb113]? = some (.cells #[.int .i64 ((rd_T128 l0 x13_1).f0),.int .i64 ((rd_T128 l0 x13_1).f1),.int .i64 ((rd_T128 l0 x13_1).f2)] 128 (0,0))):=⟨by (with_reducible repeat (first|refine blk_drewN ?_ _|refine blk_drew ?_|refine blk_alloc ?_ _));refine blk_put (cs:=#[.int .i64 ((rd_T128 l0 x13_1).f0),.int .i64 ((rd_T128 l0 x13_1).f1),.int .i64 0]) ?_ 2 _ rfl;(with_reducible repeat (first|refine blk_drewN ?_ _|refine blk_drew ?_|refine blk_alloc ?_ _));refine blk_put (cs:=#[.int .i64 ((rd_T128 l0 x13_1).f0),.int .i64 0,.int .i64 0]) ?_ 1 _ rfl;(with_reducible repeat (first|refine blk_drewN ?_ _|refine blk_drew ?_|refine blk_alloc ?_ _));refine blk_put (cs:=#[.int .i64 0,.int .i64 0,.int .i64 0]) ?_ 0 _ rfl;(with_reducible repeat (first|refine blk_drewN ?_ _|refine blk_drew ?_|refine blk_alloc ?_ _));exact BK113.out⟩
                 have n2_ : Aside0 (Below w.heap.size w (((w53.setCell ⟨gb113,0,none⟩ (.int .i64 ((rd_T128 l0 x13_1).f0))).setCell ⟨gb113,1,none⟩ (.int .i64 ((rd_T128 l0 x13_1).f1))).setCell ⟨gb113,2,none⟩ (.int .i64 ((rd_T128 l0 x13_1).f2)))):=⟨by repeat (first|(with_reducible first|exact HB.out|apply below_alloc|apply pw_below_drewN|apply below_drew1|refine below_set ?_ GE113.out)|exact HB.out)⟩
                 (try clear HO_5)
                 (try clear BK113)
                 (try clear HB)
                 generalize (((w53.setCell ⟨gb113,0,none⟩ (.int .i64 ((rd_T128 l0 x13_1).f0))).setCell ⟨gb113,1,none⟩ (.int .i64 ((rd_T128 l0 x13_1).f1))).setCell ⟨gb113,2,none⟩ (.int .i64 ((rd_T128 l0 x13_1).f2))) = w55 at n0_ n1_ n2_ ⊢
                 have HO_5:=n0_
                 have BK113:=n1_
                 have HB:=n2_
                 clear n0_ n1_ n2_
                 have n0_:=Aside0.mk (Kd.R_drew HO_5.out)
                 have n1_:=Aside0.mk (blk_drew BK113.out)
                 have n2_:=Aside0.mk (below_drew1 HB.out)
                 clear HO_5
                 clear BK113
                 clear HB
                 have HO_5:=n0_
                 have BK113:=n1_
                 have HB:=n2_
                 clear n0_ n1_ n2_
                 obtain ⟨Ao57,co57,eo57⟩:=Kd.R_slice HO_5.out
                 (first|subst eo57|(injection eo57 with f1_ f2_ f3_;have f4_:=f1_.symm;have f5_:=f3_.symm;clear f1_ f2_ f3_;subst f4_;subst f5_))
                 have p120 : 0 ≤ (((rd_T128 l0 x13_1).f1) : Int):=of_decide_eq_true (by first|(with_reducible assumption)|assumption)
                 have q120 : ((rd_T128 l0 x13_1).f1) < (x5_1.length : Int):=of_decide_eq_true (by first|(with_reducible assumption)|assumption)
                 obtain ⟨ad120,e120,hx120_0⟩:=Kd.at_int (Kd.R_reads' HO_5.out).2.2 ((rd_T128 l0 x13_1).f1) p120 q120
                 cases e120
                 replace p120:=eq_true p120
                 replace q120:=eq_true q120
                 have p121 : 0 ≤ (((rd_T128 l0 x13_1).f2) : Int):=of_decide_eq_true (by first|(with_reducible assumption)|assumption)
                 have q121 : ((rd_T128 l0 x13_1).f2) < (x5_1.length : Int):=of_decide_eq_true (by first|(with_reducible assumption)|assumption)
                 obtain ⟨ad121,e121,hx121_0⟩:=Kd.at_int (Kd.R_reads' HO_5.out).2.2 ((rd_T128 l0 x13_1).f2) p121 q121
                 obtain rfl : ad120 = ad121:=(by injection e121)
                 replace p121:=eq_true p121
                 replace q121:=eq_true q121
                 have p52 : 0 ≤ (x13_1 : Int):=of_decide_eq_true (by first|(with_reducible assumption)|assumption)
                 have q52 : (x13_1 : Int) < ((x5_1.length : Int) : Int):=of_decide_eq_true (by first|(with_reducible assumption)|assumption)
                 obtain ⟨go52,co52,eo52,gb52,gl52,cl52,HG52⟩:=Kd.R_form HO_5.out (by omega)
                 (first|cases eo52|(injection eo52 with ea_ en_ ec_;(first|subst ea_|(injection ea_ with ea_;subst ea_));subst ec_;clear en_))
                 have GB52:=Aside0.mk gb52
                 have GG52:=Aside0.mk HG52
                 clear gb52 gl52 HG52
                 (first|simp only [add_plain] at hx120_0|skip)
                 (first|simp only [add_plain] at hx121_0|skip)
                 obtain ⟨hx52_0,hf52_0⟩:=Kd.R_celln 0 HO_5.out (x13_1 : Int) p52 q52
                 replace p52:=eq_true p52
                 replace q52:=eq_true q52
                 have HP58:=Kd.R_putn HO_5.out (x13_1 : Int) ji50
                 rw [← Ny122.out] at HP58
                 have HQ58:=Aside0.mk HP58
                 clear HP58
                 refine start_ (n:=17) (S:=fun w'=>w'.cell? ⟨gb113,0,none⟩ = some (.int .i64 ((rd_T128 l0 x13_1).f0)) ∧ w'.cell? ⟨gb113,1,none⟩ = some (.int .i64 ((rd_T128 l0 x13_1).f1)) ∧ w'.cell? ⟨gb113,2,none⟩ = some (.int .i64 ((rd_T128 l0 x13_1).f2)) ∧ w'.cell? ⟨go52,(((rd_T128 l0 x13_1).f1)).toNat,none⟩ = some (.int .i64 (rd x5_1 ((rd_T128 l0 x13_1).f1))) ∧ w'.cell? ⟨go52,(((rd_T128 l0 x13_1).f2)).toNat,none⟩ = some (.int .i64 (rd x5_1 ((rd_T128 l0 x13_1).f2)))) (ds:=[16]) #[false,false,false,false,false,false,false,false,false,false,false,false,false,false,false,false,false] (by kernel_rfl) rfl rfl ⟨(blk_cell BK113.out 0).trans rfl,(blk_cell BK113.out 1).trans rfl,(blk_cell BK113.out 2).trans rfl,hx120_0,hx121_0⟩ (fun hHeld=>?_);refine with_tabW spot_count.tab12 spot_count.bits12 (fun HT_ HW_=>?_)
                 generalize w55.drew = w56 at HO_5 BK113 HB GG52 HQ58 hf52_0 hx120_0 hx121_0 hx52_0 hHeld ⊢
                 refine pure_ (i:=0) (N:=some 38) (v:=?_) (a':=?_) #[true,false,false,false,false,false,false,false,false,false,false,false,false,false,false,false,false] rfl rfl (any_of HT_.out (by kernel_rfl)) (fun _ _ _ h=>h) (Or.inl ⟨by rfl,?_⟩) ?_ ?_
                 rotate_left
                 ·intro w'
                  go_simp
                  with_reducible rfl
                 rotate_left
                 ·simp only [Act.put,List.setIfInBounds_toArray,List.set_cons_zero,List.set_cons_succ,i64_w,i32_w]
                  rfl
                 refine pure_ (i:=1) (N:=some 39) (v:=?_) (a':=?_) #[true,true,false,false,false,false,false,false,false,false,false,false,false,false,false,false,false] rfl rfl (any_of HT_.out (by kernel_rfl)) (fun _ _ _ h=>h) (Or.inl ⟨by rfl,?_⟩) ?_ ?_
                 rotate_left
                 ·intro w'
                  go_simp
                  with_reducible rfl
                 rotate_left
                 ·simp only [Act.put,List.setIfInBounds_toArray,List.set_cons_zero,List.set_cons_succ,i64_w,i32_w]
                  rfl
                 refine pure_ (i:=2) (N:=some 40) (v:=?_) (a':=?_) #[true,true,true,false,false,false,false,false,false,false,false,false,false,false,false,false,false] rfl rfl (any_of HT_.out (by kernel_rfl)) (fun _ _ _ h=>h) (Or.inl ⟨by rfl,?_⟩) ?_ ?_
                 rotate_left
                 ·intro w'
                  go_simp
                  with_reducible rfl
                 rotate_left
                 ·simp only [Act.put,List.setIfInBounds_toArray,List.set_cons_zero,List.set_cons_succ,i64_w,i32_w]
                  rfl
                 refine pure_ (i:=3) (N:=some 41) (v:=?_) (a':=?_) #[true,true,true,true,false,false,false,false,false,false,false,false,false,false,false,false,false] rfl rfl (any_of HT_.out (by kernel_rfl)) (fun _ _ _ h=>h) (Or.inl ⟨by rfl,?_⟩) ?_ ?_
                 rotate_left
                 ·intro w'
                  go_simp
                  with_reducible rfl
                 rotate_left
                 ·simp only [Act.put,List.setIfInBounds_toArray,List.set_cons_zero,List.set_cons_succ,i64_w,i32_w]
                  rfl
                 refine pure_ (i:=7) (N:=some 45) (v:=?_) (a':=?_) #[true,true,true,true,false,false,false,true,false,false,false,false,false,false,false,false,false] rfl rfl (any_of HT_.out (by kernel_rfl)) (fun _ _ _ h=>h) (Or.inl ⟨by rfl,?_⟩) ?_ ?_
                 rotate_left
                 ·intro w'
                  go_simp
                  with_reducible rfl
                 rotate_left
                 ·simp only [Act.put,List.setIfInBounds_toArray,List.set_cons_zero,List.set_cons_succ,i64_w,i32_w]
                  rfl
                 refine pure_ (i:=8) (N:=some 46) (v:=?_) (a':=?_) #[true,true,true,true,false,false,false,true,true,false,false,false,false,false,false,false,false] rfl rfl (any_of HT_.out (by kernel_rfl)) (fun _ _ _ h=>h) (Or.inl ⟨by rfl,?_⟩) ?_ ?_
                 rotate_left
                 ·intro w'
                  go_simp
                  with_reducible rfl
                 rotate_left
                 ·simp only [Act.put,List.setIfInBounds_toArray,List.set_cons_zero,List.set_cons_succ,i64_w,i32_w]
                  rfl
                 refine pure_ (i:=13) (N:=some 51) (v:=?_) (a':=?_) #[true,true,true,true,false,false,false,true,true,false,false,false,false,true,false,false,false] rfl rfl (any_of HT_.out (by kernel_rfl)) (fun _ _ _ h=>h) (Or.inl ⟨by rfl,?_⟩) ?_ ?_
                 rotate_left
                 ·intro w'
                  go_simp
                  with_reducible rfl
                 rotate_left
                 ·simp only [Act.put,List.setIfInBounds_toArray,List.set_cons_zero,List.set_cons_succ,i64_w,i32_w]
                  rfl
                 refine take_ (i:=4) (N:=some 42) (v:=?_) (a':=?_) #[true,true,true,true,true,false,false,true,true,false,false,false,false,true,false,false,false] rfl rfl (take_ofW HT_.out HW_.out (by kernel_rfl)) (fun _ _ _ h=>h) (Or.inl ⟨by rfl,?_⟩) hHeld ?_ ?_
                 rotate_left
                 ·rintro w' ⟨s0,s1,s2,s3,s4⟩
                  go_simp
                  with_reducible rfl
                 rotate_left
                 ·simp only [Act.put,List.setIfInBounds_toArray,List.set_cons_zero,List.set_cons_succ,i64_w,i32_w]
                  rfl
                 refine pure_ (i:=5) (N:=some 43) (v:=?_) (a':=?_) #[true,true,true,true,true,true,false,true,true,false,false,false,false,true,false,false,false] rfl rfl (any_of HT_.out (by kernel_rfl)) (fun _ _ _ h=>h) (Or.inl ⟨by rfl,?_⟩) ?_ ?_
                 rotate_left
                 ·intro w'
                  go_simp
                  with_reducible rfl
                 rotate_left
                 ·simp only [Act.put,List.setIfInBounds_toArray,List.set_cons_zero,List.set_cons_succ,i64_w,i32_w]
                  rfl
                 refine take_ (i:=6) (N:=some 44) (v:=?_) (a':=?_) #[true,true,true,true,true,true,true,true,true,false,false,false,false,true,false,false,false] rfl rfl (take_ofW HT_.out HW_.out (by kernel_rfl)) (fun _ _ _ h=>h) (Or.inl ⟨by rfl,?_⟩) hHeld ?_ ?_
                 rotate_left
                 ·rintro w' ⟨s0,s1,s2,s3,s4⟩
                  go_simp
                  with_reducible rfl
                 rotate_left
                 ·simp only [Act.put,List.setIfInBounds_toArray,List.set_cons_zero,List.set_cons_succ,i64_w,i32_w]
                  rfl
                 refine take_ (i:=9) (N:=some 47) (v:=?_) (a':=?_) #[true,true,true,true,true,true,true,true,true,true,false,false,false,true,false,false,false] rfl rfl (take_ofW HT_.out HW_.out (by kernel_rfl)) (fun _ _ _ h=>h) (Or.inl ⟨by rfl,?_⟩) hHeld ?_ ?_
                 rotate_left
                 ·rintro w' ⟨s0,s1,s2,s3,s4⟩
                  go_simp
                  with_reducible rfl
                 rotate_left
                 ·simp only [Act.put,List.setIfInBounds_toArray,List.set_cons_zero,List.set_cons_succ,i64_w,i32_w]
                  rfl
                 refine pure_ (i:=10) (N:=some 48) (v:=?_) (a':=?_) #[true,true,true,true,true,true,true,true,true,true,true,false,false,true,false,false,false] rfl rfl (any_of HT_.out (by kernel_rfl)) (fun _ _ _ h=>h) (Or.inl ⟨by rfl,?_⟩) ?_ ?_
                 rotate_left
                 ·intro w'
                  go_simp
                  with_reducible rfl
                 rotate_left
                 ·simp only [Act.put,List.setIfInBounds_toArray,List.set_cons_zero,List.set_cons_succ,i64_w,i32_w]
                  rfl
                 refine take_ (i:=11) (N:=some 49) (v:=?_) (a':=?_) #[true,true,true,true,true,true,true,true,true,true,true,true,false,true,false,false,false] rfl rfl (take_ofW HT_.out HW_.out (by kernel_rfl)) (fun _ _ _ h=>h) (Or.inl ⟨by rfl,?_⟩) hHeld ?_ ?_
                 rotate_left
                 ·rintro w' ⟨s0,s1,s2,s3,s4⟩
                  go_simp
                  with_reducible rfl
                 rotate_left
                 ·simp only [Act.put,List.setIfInBounds_toArray,List.set_cons_zero,List.set_cons_succ,i64_w,i32_w]
                  rfl
                 refine pure_ (i:=12) (N:=some 50) (v:=?_) (a':=?_) #[true,true,true,true,true,true,true,true,true,true,true,true,true,true,false,false,false] rfl rfl (any_of HT_.out (by kernel_rfl)) (fun _ _ _ h=>h) (Or.inl ⟨by rfl,?_⟩) ?_ ?_
                 rotate_left
                 ·intro w'
                  go_simp
                  with_reducible rfl
                 rotate_left
                 ·simp only [Act.put,List.setIfInBounds_toArray,List.set_cons_zero,List.set_cons_succ,i64_w,i32_w]
                  rfl
                 refine pure_ (i:=14) (N:=some 52) (v:=?_) (a':=?_) #[true,true,true,true,true,true,true,true,true,true,true,true,true,true,true,false,false] rfl rfl (any_of HT_.out (by kernel_rfl)) (fun _ _ _ h=>h) (Or.inl ⟨by rfl,?_⟩) ?_ ?_
                 rotate_left
                 ·intro w'
                  go_simp
                  with_reducible rfl
                 rotate_left
                 ·simp only [Act.put,List.setIfInBounds_toArray,List.set_cons_zero,List.set_cons_succ,i64_w,i32_w]
                  rfl
                 refine pure_ (i:=15) (N:=some 53) (v:=?_) (a':=?_) #[true,true,true,true,true,true,true,true,true,true,true,true,true,true,true,true,false] rfl rfl (any_of HT_.out (by kernel_rfl)) (fun _ _ _ h=>h) (Or.inl ⟨by rfl,?_⟩) ?_ ?_
                 rotate_left
                 ·intro w'
                  go_simp
                  with_reducible rfl
                 rotate_left
                 ·simp only [Act.put,List.setIfInBounds_toArray,List.set_cons_zero,List.set_cons_succ,i64_w,i32_w]
                  rfl
                 refine last_ (i:=16) (N:=none) #[true,true,true,true,true,true,true,true,true,true,true,true,true,true,true,true,true] rfl rfl (one_of HT_.out (by kernel_rfl)) (by decide) (fun K hK=>?_)
                 refine skip_ (w1:=?_) (by rfl) rfl ?_ ?_
                 rotate_left
                 ·go_simp
                  rfl
                 refine hK.out _ _ ?_
                 clear hK K
                 refine done_ (done_of HT_.out (by kernel_rfl)) ?_
                 try go_wp2
                 first|go_roundg k1|((simp only [← hji50]);go_roundg k1)
                 case measure=>have:=HK1.out;omega
                 case rel=>exact ⟨(y122),(wrap64 (x13_1 + 1)),(by first|rfl|(simp;done)|(simp [*];done)),(by first|exact H'|((simp only [hji50]);exact H')|(have h_:=H'.out;simp only [← hji50] at h_ ⊢;exact ⟨h_⟩)),⟨by have:=HK1.out;omega⟩,⟨by (with_reducible repeat (first|apply Kd.R_alloc|apply Kd.R_drewN|apply Kd.R_drew));exact HQ58.out⟩,⟨by repeat (first|(with_reducible first|exact HB.out|apply below_alloc|apply pw_below_drewN|apply below_drew1|refine below_set ?_ GB52.out|refine below_set ?_ GE113.out)|exact HB.out)⟩⟩
                ·rw [if_neg c51] at H
                 exact absurd H (by simp)
               ·rw [if_neg c49] at H
                exact absurd H (by simp)
              ·rw [if_neg c48] at H
               exact absurd H (by simp)
             ·rw [if_neg c47] at H
              exact absurd H (by simp)
            ·rw [if_neg c46] at H
             exact absurd H (by simp)
           ·rw [if_neg c45] at H
            have c45b0 : (((rd_T128 l0 x13_1).f0) == 5) = false:=beq_eq_false_iff_ne.mpr c45
            have c45b1 : (((rd_T128 l0 x13_1).f0) != 5) = true:=bne_iff_ne.mpr c45
            have H':=Aside0.mk H
            clear H
            have p112 : 0 ≤ (x13_1 : Int):=of_decide_eq_true (by first|(with_reducible assumption)|assumption)
            have q112 : x13_1 < (l0.length : Int):=of_decide_eq_true (by first|(with_reducible assumption)|assumption)
            obtain ⟨ad112,e112,hx112_0,hx112_1,hx112_2⟩:=at_T128 HR0.out x13_1 p112 q112
            cases e112
            replace hx112_0:=(HB.out.cell (World.block_lt_of_cell? w _ hx112_0)).trans hx112_0
            replace hx112_1:=(HB.out.cell (World.block_lt_of_cell? w _ hx112_1)).trans hx112_1
            replace hx112_2:=(HB.out.cell (World.block_lt_of_cell? w _ hx112_2)).trans hx112_2
            replace p112:=eq_true p112
            replace q112:=eq_true q112
            go_wp2_with (first|((with_reducible refine gate_dst (N:=7) rfl ?_);refine box_event ?hg (N:=7) ?hd (cs:=#[.int .i64 0,.int .i64 0,.int .i64 0]) (t:=128) ?hr ?_;(case hd=>rfl);(case hg=>rfl);(case hr=>first|(go_simp;done)|(go_simp;rfl));intro gb113 hg w59 hbox hb;have n0_:=Aside0.mk (Kd.R_below (by (with_reducible repeat (first|apply Kd.R_alloc|apply Kd.R_drewN|apply Kd.R_drew));exact HO_5.out) hb);have n1_:=Aside0.mk (below_step (by repeat (first|(with_reducible first|exact HB.out|apply below_alloc|apply pw_below_drewN|apply below_drew1)|exact HB.out)) hb);have n2_:=Aside0.mk (hbox);have n3_:=Aside0.mk ((by rw [hg];exact (below_size (by repeat (first|(with_reducible first|exact HB.out|apply below_alloc|apply pw_below_drewN|apply below_drew1)|exact HB.out))) : w.heap.size ≤ gb113));have n4_:=Aside0.mk ((by rw [hg];exact (below_size (by repeat (first|(with_reducible first|exact HB.out|apply below_alloc|apply pw_below_drewN|apply below_drew1)|exact HB.out))) : w.heap.size ≤ gb113));clear HO_5;clear HB;have HO_5:=n0_;have HB:=n1_;have BK113:=n2_;have GW113:=n3_;have GE113:=n4_;clear n0_ n1_ n2_ n3_ n4_;clear hb hbox hg;have hcz60_0 : w59.cell? ⟨gb113,0,none⟩ = some (.int .i64 0):=(blk_cell BK113.out 0).trans rfl;have hcz60_1 : w59.cell? ⟨gb113,1,none⟩ = some (.int .i64 0):=(blk_cell BK113.out 1).trans rfl;have hcz60_2 : w59.cell? ⟨gb113,2,none⟩ = some (.int .i64 0):=(blk_cell BK113.out 2).trans rfl;have hfz60_0:=blk_frozen BK113.out 0;have hfz60_1:=blk_frozen BK113.out 1;have hfz60_2:=blk_frozen BK113.out 2))
            go_roundg k1
            case measure=>have:=HK1.out;omega
            case rel=>exact ⟨(x5_1),(wrap64 (x13_1 + 1)),(by first|rfl|(simp;done)|(simp [*];done)),H',⟨by have:=HK1.out;omega⟩,⟨by (with_reducible repeat (first|apply Kd.R_alloc|apply Kd.R_drewN|apply Kd.R_drew));exact Kd.R_mono (Kd.R_far (p:=⟨gb113,2,none⟩) (Kd.R_far (p:=⟨gb113,1,none⟩) (Kd.R_far (p:=⟨gb113,0,none⟩) (Kd.R_types HO_5.out BK113.out (by decide)) (fun _ hk=>hk.2) (.int .i64 ((rd_T128 l0 x13_1).f0))) (fun _ hk=>hk.2) (.int .i64 ((rd_T128 l0 x13_1).f1))) (fun _ hk=>hk.2) (.int .i64 ((rd_T128 l0 x13_1).f2))) (fun _ hk=>trivial)⟩,⟨by repeat (first|(with_reducible first|exact HB.out|apply below_alloc|apply pw_below_drewN|apply below_drew1|refine below_set ?_ GE113.out)|exact HB.out)⟩⟩
       ·rw [if_neg c9] at H
        exact absurd H (by simp)
      ·rw [if_neg c8] at H
       exact absurd H (by simp)
     ·rw [if_neg c7] at H
      have c7b0 : decide (x13_1 < (l0.length : Int)) = false:=decide_eq_false c7
      clear c7
      obtain ⟨ji61,hji61⟩ : ∃ j_ : Int,(wrap64 ((l0.length : Int) - 1)) = j_:=⟨_,rfl⟩
      replace H : (if 0 ≤ (ji61) then (if (ji61) < (x5_1.length : Int) then (some (rd x5_1 (ji61))) else (none)) else (none)) = some r:=by first|(rw [hji61] at H;exact H)|(simp only [hji61] at H ⊢;exact H)
      have hji61w : (IntKind.i64.wrap ((l0.length : Int) - 1)) = ji61:=(i64_w _).trans hji61
      by_cases c62 : 0 ≤ (ji61)
      ·rw [if_pos c62] at H
       have c62b0 : decide (0 ≤ (ji61)) = true:=decide_eq_true c62
       clear c62
       by_cases c63 : (ji61) < (x5_1.length : Int)
       ·rw [if_pos c63] at H
        have c63b0 : decide ((ji61) < (x5_1.length : Int)) = true:=decide_eq_true c63
        clear c63
        obtain rfl:=Option.some.inj H
        obtain ⟨Ao64,co64,eo64⟩:=Kd.R_slice HO_5.out
        subst eo64
        have p111 : 0 ≤ ((ji61) : Int):=of_decide_eq_true (by first|(with_reducible assumption)|assumption)
        have q111 : (ji61) < (x5_1.length : Int):=of_decide_eq_true (by first|(with_reducible assumption)|assumption)
        obtain ⟨ad111,e111,hx111_0⟩:=Kd.at_int (Kd.R_reads' HO_5.out).2.2 (ji61) p111 q111
        cases e111
        replace p111:=eq_true p111
        replace q111:=eq_true q111
        go_wp2
        go_ret
        exact ⟨by first|rfl|(simp [errW_none,errW_some] <;> rfl)|(simp only [← hji61];first|rfl|(simp [errW_none,errW_some] <;> rfl))|(simp [*,errW_none,errW_some] <;> rfl),by repeat (first|(with_reducible first|exact HB.out|apply below_alloc|apply pw_below_drewN|apply below_drew1)|exact HB.out)⟩
       ·rw [if_neg c63] at H
        exact absurd H (by simp)
      ·rw [if_neg c62] at H
       exact absurd H (by simp)
  ·rw [if_neg c4] at H
   exact absurd H (by simp)
 ·rw [if_neg c3] at H
  exact absurd H (by simp)
end Go.Proofs.Ytkalcljgcigdgaa.GS
