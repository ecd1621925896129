-- Written by ext.py, a program of this session.
import Derived.Test.YtkalcljgcigdgaaGS0
import Derived.Test.YtkalcljgcigdgaaGS14
namespace Go.Proofs.Ytkalcljgcigdgaa.GS
open Go.RowKit Go.Proofs.YtkalcljgcigdgaaW.PrintWords Go.Proofs.YtkalcljgcigdgaaW.PrintLast Go.Proofs.YtkalcljgcigdgaaW.PrintMore
attribute [local go_sem] max2_int min2_int max_two min_two max_three min_three max_four min_four cellIs_set   -- for this text's walks alone
set_option linter.unusedVariables false
set_option linter.unusedSimpArgs false
/-! ### net_Step: function 45 -/
def net_Step.l0 : Nat → Int → Int → Int → List (S42) → Int → Int → Int → Int → List (S42) → Int → Int → Option (Int)
 | 0,_,_,_,_,_,_,_,_,_,_,_=>none
 | k + 1,x1,x2,x7,x11,x12,x13,x191000,x191001,x191002,x191003,x191004=>if x13 < x12 then (if 0 ≤ x13 then (if x13 < (x11.length : Int) then (if ((rd_T42 x11 x13).f1) = x2 then (if 0 ≤ ((rd_T42 x11 x13).f0) then (if (Go.bits .and .u32 (shr .u32 x1 ((rd_T42 x11 x13).f0)) 1) = 1 then (if 0 ≤ ((rd_T42 x11 x13).f2) then (net_Step.l0 k x1 x2 (Go.bits .or .u32 x7 (shl .u32 1 ((rd_T42 x11 x13).f2))) x11 x12 (wrap64 (x13 + 1)) x191000 x191001 x191002 x191003 x191004) else (none)) else (net_Step.l0 k x1 x2 x7 x11 x12 (wrap64 (x13 + 1)) x191000 x191001 x191002 x191003 x191004)) else (none)) else (net_Step.l0 k x1 x2 x7 x11 x12 (wrap64 (x13 + 1)) x191000 x191001 x191002 x191003 x191004)) else (none)) else (none)) else ((net_Free.f k x191000 x191001 x191002 x191003 x191004 x7).bind fun t193=>(some t193))
def net_Step.f (k : Nat) (a0_0 : Int) (a0_1 : Int) (l0_2 : List (S42)) (a0_3 : Int) (a0_4 : Int) (a1 : Int) (a2 : Int) : Option (Int):=net_Step.l0 k a1 a2 0 l0_2 (l0_2.length : Int) 0 a0_0 a0_1 l0_2 a0_3 a0_4
theorem net_Step.mono_l : ∀ k,(∀ y0 y1 y2 y3 y4 y5 y6 y7 y8 y9 y10,LeO (net_Step.l0 k y0 y1 y2 y3 y4 y5 y6 y7 y8 y9 y10) (net_Step.l0 (k + 1) y0 y1 y2 y3 y4 y5 y6 y7 y8 y9 y10))
 | 0=>fun _ _ _ _ _ _ _ _ _ _ _ r h=>by simp [net_Step.l0] at h
 | k + 1=>by
  have ih0:=net_Step.mono_l k
  ·intro y0 y1 y2 y3 y4 y5 y6 y7 y8 y9 y10
   unfold net_Step.l0
   repeat' first
   | (with_reducible exact ih0 _ _ _ _ _ _ _ _ _ _ _)
   | (with_reducible exact net_Free.mono _ _ _ _ _ _ _)
   | (with_reducible exact LeO.refl _)
   | (with_reducible exact LeO.none _)
   | (with_reducible refine LeO.ite ?_ ?_)
   | (with_reducible refine LeO.bind ?_ (fun _=>?_))
   | exact ih0 _ _ _ _ _ _ _ _ _ _ _
   | exact net_Free.mono _ _ _ _ _ _ _
   | exact LeO.none _
   | refine LeO.ite ?_ ?_
   | refine LeO.bind ?_ (fun _=>?_)
theorem net_Step.mono : ∀ a0 a1 a2 a3 a4 a5 a6 k,LeO (net_Step.f k a0 a1 a2 a3 a4 a5 a6) (net_Step.f (k + 1) a0 a1 a2 a3 a4 a5 a6):=by
 intro a0 a1 a2 a3 a4 a5 a6 k
 have ih0:=net_Step.mono_l k
 unfold net_Step.f
 repeat' first
   | (with_reducible exact ih0 _ _ _ _ _ _ _ _ _ _ _)
   | (with_reducible exact net_Free.mono _ _ _ _ _ _ _)
   | (with_reducible exact LeO.refl _)
   | (with_reducible exact LeO.none _)
   | (with_reducible refine LeO.ite ?_ ?_)
   | (with_reducible refine LeO.bind ?_ (fun _=>?_))
   | exact ih0 _ _ _ _ _ _ _ _ _ _ _
   | exact net_Free.mono _ _ _ _ _ _ _
   | exact LeO.none _
   | refine LeO.ite ?_ ?_
   | refine LeO.bind ?_ (fun _=>?_)
set_option maxHeartbeats 8000000 in
set_option maxRecDepth 100000 in
theorem net_Step.calls (k : Nat) (a0_0 : Int) (a0_1 : Int) (A0_2 : Option Addr) (c0_2 : Nat) (l0_2 : List (S42)) (a0_3 : Int) (a0_4 : Int) (a1 : Int) (a2 : Int) (r : Int) (w : World) (hr0_2 : Kd.C k42 w A0_2 l0_2.length l0_2) (hc0_2 : l0_2.length ≤ c0_2) (h : net_Step.f k a0_0 a0_1 l0_2 a0_3 a0_4 a1 a2 = some r) :
  Calls Try.prog 45 #[.agg #[.int .i64 a0_0,.int .i64 a0_1,.slice A0_2 l0_2.length c0_2,.int .u32 a0_3,.int .u32 a0_4],.int .u32 a1,.int .i64 a2] w fun e w'=>e = .returned (.int .u32 r) ∧ Below w.heap.size w w':=by
 have hu35:=Try.underlying35
 have hu42:=Try.underlying42
 have HR0_2:=Aside0.mk hr0_2
 have HC0_2:=Aside0.mk hc0_2
 clear hr0_2 hc0_2
 have HB:=Aside0.mk (Below.refl w.heap.size w)
 have H : (net_Step.l0 k a1 a2 0 l0_2 (l0_2.length : Int) 0 a0_0 a0_1 l0_2 a0_3 a0_4) = some r:=h
 clear h
 have H':=Aside0.mk H
 clear H
 go_enter Try.func45,Try.ntmps45
 go_wp2_with (first|((with_reducible refine gate_dst (N:=3) rfl ?_);refine box_event ?hg (N:=3) ?hd (cs:=#[.int .i64 a0_0,.int .i64 a0_1,.slice A0_2 l0_2.length c0_2,.int .u32 a0_3,.int .u32 a0_4]) (t:=35) ?hr ?_;(case hd=>rfl);(case hg=>rfl);(case hr=>first|(go_simp;done)|(go_simp;rfl));intro gb190 hg w4 hbox hb;have n0_:=Aside0.mk (below_step (by repeat (first|(with_reducible first|exact HB.out|apply below_alloc|apply pw_below_drewN|apply below_drew1)|exact HB.out)) hb);have n1_:=Aside0.mk (hbox);have n2_:=Aside0.mk ((by rw [hg];exact (below_size (by repeat (first|(with_reducible first|exact HB.out|apply below_alloc|apply pw_below_drewN|apply below_drew1)|exact HB.out))) : w.heap.size ≤ gb190));have n3_:=Aside0.mk ((by rw [hg];exact (below_size (by repeat (first|(with_reducible first|exact HB.out|apply below_alloc|apply pw_below_drewN|apply below_drew1)|exact HB.out))) : w.heap.size ≤ gb190));clear HB;have HB:=n0_;have BK190:=n1_;have GW190:=n2_;have GE190:=n3_;clear n0_ n1_ n2_ n3_;clear hb hbox hg;have hcz5_0 : w4.cell? ⟨gb190,0,none⟩ = some (.int .i64 a0_0):=(blk_cell BK190.out 0).trans rfl;have hcz5_1 : w4.cell? ⟨gb190,1,none⟩ = some (.int .i64 a0_1):=(blk_cell BK190.out 1).trans rfl;have hcz5_2 : w4.cell? ⟨gb190,2,none⟩ = some (.slice A0_2 l0_2.length c0_2):=(blk_cell BK190.out 2).trans rfl;have hcz5_3 : w4.cell? ⟨gb190,3,none⟩ = some (.int .u32 a0_3):=(blk_cell BK190.out 3).trans rfl;have hcz5_4 : w4.cell? ⟨gb190,4,none⟩ = some (.int .u32 a0_4):=(blk_cell BK190.out 4).trans rfl;have hfz5_0:=blk_frozen BK190.out 0;have hfz5_1:=blk_frozen BK190.out 1;have hfz5_2:=blk_frozen BK190.out 2;have hfz5_3:=blk_frozen BK190.out 3;have hfz5_4:=blk_frozen BK190.out 4))
 go_loopg [7,13] k (fun kq v7 v13 w'=>∃ (x7_1 : Int) (x13_1 : Int),v7 = .int .u32 x7_1 ∧ v13 = .int .i64 x13_1 ∧ Aside0 (net_Step.l0 kq a1 a2 x7_1 l0_2 (l0_2.length : Int) x13_1 a0_0 a0_1 l0_2 a0_3 a0_4 = some r) ∧ Aside0 (kq ≤ k) ∧ Aside0 (w'.heap[gb190]? = some (.cells #[.int .i64 a0_0,.int .i64 a0_1,(.slice A0_2 l0_2.length c0_2),.int .u32 a0_3,.int .u32 a0_4] 35 (0,0))) ∧ Aside0 (Below w.heap.size w w'))
 case atStart=>exact ⟨(0),(0),(by first|rfl|(simp;done)|(simp [*];done)),(by first|rfl|(simp;done)|(simp [*];done)),H',⟨Nat.le_refl _⟩,⟨by (with_reducible repeat (first|refine blk_drewN ?_ _|refine blk_drew ?_|refine blk_alloc ?_ _));exact BK190.out⟩,⟨by repeat (first|(with_reducible first|exact HB.out|apply below_alloc|apply pw_below_drewN|apply below_drew1|refine below_set ?_ GE190.out)|exact HB.out)⟩⟩
 case round =>
  clear H'
  try clear p2
  try clear c4
  try clear hcz5_0
  try clear hcz5_1
  try clear hcz5_2
  try clear hcz5_3
  try clear hcz5_4
  try clear hfz5_0
  try clear hfz5_1
  try clear hfz5_2
  try clear hfz5_3
  try clear hfz5_4
  obtain ⟨x7_1,x13_1,rfl,rfl,HA,HK1,BK190,HB⟩:=hrel
  cases gk with
  | zero=>exact absurd HA.out (by simp [net_Step.l0])
  | succ k1 =>
   have H:=HA.out
   clear HA
   simp only [net_Step.l0] at H
   by_cases c6 : x13_1 < (l0_2.length : Int)
   ·rw [if_pos c6] at H
    have c6b0 : decide (x13_1 < (l0_2.length : Int)) = true:=decide_eq_true c6
    clear c6
    by_cases c7 : 0 ≤ x13_1
    ·rw [if_pos c7] at H
     have c7b0 : decide (0 ≤ x13_1) = true:=decide_eq_true c7
     clear c7
     by_cases c8 : x13_1 < (l0_2.length : Int)
     ·rw [if_pos c8] at H
      have c8b0 : decide (x13_1 < (l0_2.length : Int)) = true:=decide_eq_true c8
      clear c8
      by_cases c9 : ((rd_T42 l0_2 x13_1).f1) = a2
      ·rw [if_pos c9] at H
       have c9b0 : (((rd_T42 l0_2 x13_1).f1) == a2) = true:=beq_iff_eq.mpr c9
       have c9b1 : (((rd_T42 l0_2 x13_1).f1) != a2) = false:=bne_eq_false_iff_eq.mpr c9
       clear c9
       by_cases c10 : 0 ≤ ((rd_T42 l0_2 x13_1).f0)
       ·rw [if_pos c10] at H
        have c10b0:=eq_true c10
        have c10b1 : decide (0 ≤ ((rd_T42 l0_2 x13_1).f0)) = true:=decide_eq_true c10
        clear c10
        obtain ⟨ji11,hji11⟩ : ∃ j_ : Int,(shr .u32 a1 ((rd_T42 l0_2 x13_1).f0)) = j_:=⟨_,rfl⟩
        replace H : (if (Go.bits .and .u32 (ji11) 1) = 1 then (if 0 ≤ ((rd_T42 l0_2 x13_1).f2) then (net_Step.l0 k1 a1 a2 (Go.bits .or .u32 x7_1 (shl .u32 1 ((rd_T42 l0_2 x13_1).f2))) l0_2 (l0_2.length : Int) (wrap64 (x13_1 + 1)) a0_0 a0_1 l0_2 a0_3 a0_4) else (none)) else (net_Step.l0 k1 a1 a2 x7_1 l0_2 (l0_2.length : Int) (wrap64 (x13_1 + 1)) a0_0 a0_1 l0_2 a0_3 a0_4)) = some r:=by first|(rw [hji11] at H;exact H)|(simp only [hji11] at H ⊢;exact H)
        have hji11_ : (a1 / 2 ^ min ((rd_T42 l0_2 x13_1).f0).toNat 32) = ji11:=hji11
        have hji11z : ((rd_T42 l0_2 x13_1).f0) ≤ 32 → (a1 / 2 ^ ((rd_T42 l0_2 x13_1).f0).toNat) = ji11:=shr_small hji11
        by_cases c12 : (Go.bits .and .u32 (ji11) 1) = 1
        ·rw [if_pos c12] at H
         have c12b0 : ((Go.bits .and .u32 (ji11) 1) == 1) = true:=beq_iff_eq.mpr c12
         have c12b1 : ((Go.bits .and .u32 (ji11) 1) != 1) = false:=bne_eq_false_iff_eq.mpr c12
         clear c12
         by_cases c13 : 0 ≤ ((rd_T42 l0_2 x13_1).f2)
         ·rw [if_pos c13] at H
          have c13b0:=eq_true c13
          have c13b1 : decide (0 ≤ ((rd_T42 l0_2 x13_1).f2)) = true:=decide_eq_true c13
          clear c13
          obtain ⟨ji14,hji14⟩ : ∃ j_ : Int,(shl .u32 1 ((rd_T42 l0_2 x13_1).f2)) = j_:=⟨_,rfl⟩
          replace H : (net_Step.l0 k1 a1 a2 (Go.bits .or .u32 x7_1 (ji14)) l0_2 (l0_2.length : Int) (wrap64 (x13_1 + 1)) a0_0 a0_1 l0_2 a0_3 a0_4) = some r:=by first|(rw [hji14] at H;exact H)|(simp only [hji14] at H ⊢;exact H)
          have hji14_ : (IntKind.u32.wrap (1 * 2 ^ min ((rd_T42 l0_2 x13_1).f2).toNat 32)) = ji14:=hji14
          have hji14z : ((rd_T42 l0_2 x13_1).f2) ≤ 32 → (IntKind.u32.wrap (1 * 2 ^ ((rd_T42 l0_2 x13_1).f2).toNat)) = ji14:=shl_small hji14
          have hji14u : (IntKind.u32.wrap (2 ^ min ((rd_T42 l0_2 x13_1).f2).toNat 32)) = ji14:=by have h_:=hji14_;rw [Int.one_mul] at h_;exact h_
          have hji14v : ((rd_T42 l0_2 x13_1).f2) ≤ 32 → (IntKind.u32.wrap (2 ^ ((rd_T42 l0_2 x13_1).f2).toNat)) = ji14:=fun hle_=>by have h_:=hji14z hle_;rw [Int.one_mul] at h_;exact h_
          have H':=Aside0.mk H
          clear H
          have p191 : 0 ≤ (x13_1 : Int):=of_decide_eq_true (by first|(with_reducible assumption)|assumption)
          have q191 : x13_1 < (l0_2.length : Int):=of_decide_eq_true (by first|(with_reducible assumption)|assumption)
          obtain ⟨ad191,e191,hx191_0,hx191_1,hx191_2⟩:=at_T42 HR0_2.out x13_1 p191 q191
          cases e191
          replace hx191_0:=(HB.out.cell (World.block_lt_of_cell? w _ hx191_0)).trans hx191_0
          replace hx191_1:=(HB.out.cell (World.block_lt_of_cell? w _ hx191_1)).trans hx191_1
          replace hx191_2:=(HB.out.cell (World.block_lt_of_cell? w _ hx191_2)).trans hx191_2
          replace p191:=eq_true p191
          replace q191:=eq_true q191
          go_wp2_with (first|((with_reducible refine gate_dst (N:=9) rfl ?_);refine box_event ?hg (N:=9) ?hd (cs:=#[.int .i64 0,.int .i64 0,.int .i64 0]) (t:=42) ?hr ?_;(case hd=>rfl);(case hg=>rfl);(case hr=>first|(go_simp;done)|(go_simp;rfl));intro gb192 hg w15 hbox hb;have n0_:=Aside0.mk (blk_below (g:=gb190) (o:=.cells #[.int .i64 a0_0,.int .i64 a0_1,.slice (some ad191) l0_2.length c0_2,.int .u32 a0_3,.int .u32 a0_4] 35 (0,0)) (by (with_reducible repeat (first|refine blk_drewN ?_ _|refine blk_drew ?_|refine blk_alloc ?_ _));exact BK190.out) hb);have n1_:=Aside0.mk (below_step (by repeat (first|(with_reducible first|exact HB.out|apply below_alloc|apply pw_below_drewN|apply below_drew1|refine below_set ?_ GE190.out)|exact HB.out)) hb);have n2_:=Aside0.mk (hbox);have n3_:=Aside0.mk ((by rw [hg];exact (below_size (by repeat (first|(with_reducible first|exact HB.out|apply below_alloc|apply pw_below_drewN|apply below_drew1|refine below_set ?_ GE190.out)|exact HB.out))) : w.heap.size ≤ gb192));have n4_:=Aside0.mk ((by rw [hg];exact (below_size (by repeat (first|(with_reducible first|exact HB.out|apply below_alloc|apply pw_below_drewN|apply below_drew1|refine below_set ?_ GE190.out)|exact HB.out))) : w.heap.size ≤ gb192));have n5_:=Aside0.mk ((by rw [hg];exact Nat.ne_of_lt (blk_lt (g:=gb190) (o:=.cells #[.int .i64 a0_0,.int .i64 a0_1,.slice (some ad191) l0_2.length c0_2,.int .u32 a0_3,.int .u32 a0_4] 35 (0,0)) (by (with_reducible repeat (first|refine blk_drewN ?_ _|refine blk_drew ?_|refine blk_alloc ?_ _));exact BK190.out)) : gb190 ≠ gb192));have n6_:=Aside0.mk ((by rw [hg];exact Nat.ne_of_gt (blk_lt (g:=gb190) (o:=.cells #[.int .i64 a0_0,.int .i64 a0_1,.slice (some ad191) l0_2.length c0_2,.int .u32 a0_3,.int .u32 a0_4] 35 (0,0)) (by (with_reducible repeat (first|refine blk_drewN ?_ _|refine blk_drew ?_|refine blk_alloc ?_ _));exact BK190.out)) : gb192 ≠ gb190));clear BK190;clear HB;have BK190:=n0_;have HB:=n1_;have BK192:=n2_;have GW192:=n3_;have GE192:=n4_;have NB190_192:=n5_;have NB192_190:=n6_;clear n0_ n1_ n2_ n3_ n4_ n5_ n6_;clear hb hbox hg;have hnb16:=NB192_190.out;have hnc16:=NB190_192.out;have hcz17_0 : w15.cell? ⟨gb192,0,none⟩ = some (.int .i64 0):=(blk_cell BK192.out 0).trans rfl;have hcz17_1 : w15.cell? ⟨gb192,1,none⟩ = some (.int .i64 0):=(blk_cell BK192.out 1).trans rfl;have hcz17_2 : w15.cell? ⟨gb192,2,none⟩ = some (.int .i64 0):=(blk_cell BK192.out 2).trans rfl;have hfz17_0:=blk_frozen BK192.out 0;have hfz17_1:=blk_frozen BK192.out 1;have hfz17_2:=blk_frozen BK192.out 2))
          first|go_roundg k1|((simp only [← hji11,← hji14]);go_roundg k1)
          case measure=>have:=HK1.out;omega
          case rel=>exact ⟨(Go.bits .or .u32 x7_1 (ji14)),(wrap64 (x13_1 + 1)),(by first|rfl|(simp;done)|(simp only [← hji14] <;> (first|rfl|simp))|(simp [*];done)),(by first|rfl|(simp;done)|(simp [*];done)),(by first|exact H'|((simp only [hji11,hji14]);exact H')|(have h_:=H'.out;simp only [← hji11,← hji14] at h_ ⊢;exact ⟨h_⟩)),⟨by have:=HK1.out;omega⟩,⟨by (with_reducible repeat (first|refine blk_drewN ?_ _|refine blk_drew ?_|refine blk_alloc ?_ _));refine blk_far ?_ NB190_192.out _;(with_reducible repeat (first|refine blk_drewN ?_ _|refine blk_drew ?_|refine blk_alloc ?_ _));refine blk_far ?_ NB190_192.out _;(with_reducible repeat (first|refine blk_drewN ?_ _|refine blk_drew ?_|refine blk_alloc ?_ _));refine blk_far ?_ NB190_192.out _;(with_reducible repeat (first|refine blk_drewN ?_ _|refine blk_drew ?_|refine blk_alloc ?_ _));(first|exact BK190.out|(have h_:=BK190.out;simp only [← hji11,← hji14] at h_;exact h_))⟩,⟨by repeat (first|(with_reducible first|exact HB.out|apply below_alloc|apply pw_below_drewN|apply below_drew1|refine below_set ?_ GE190.out|refine below_set ?_ GE192.out)|exact HB.out)⟩⟩
         ·rw [if_neg c13] at H
          exact absurd H (by simp)
        ·rw [if_neg c12] at H
         have c12b0 : ((Go.bits .and .u32 (ji11) 1) == 1) = false:=beq_eq_false_iff_ne.mpr c12
         have c12b1 : ((Go.bits .and .u32 (ji11) 1) != 1) = true:=bne_iff_ne.mpr c12
         have H':=Aside0.mk H
         clear H
         have p191 : 0 ≤ (x13_1 : Int):=of_decide_eq_true (by first|(with_reducible assumption)|assumption)
         have q191 : x13_1 < (l0_2.length : Int):=of_decide_eq_true (by first|(with_reducible assumption)|assumption)
         obtain ⟨ad191,e191,hx191_0,hx191_1,hx191_2⟩:=at_T42 HR0_2.out x13_1 p191 q191
         cases e191
         replace hx191_0:=(HB.out.cell (World.block_lt_of_cell? w _ hx191_0)).trans hx191_0
         replace hx191_1:=(HB.out.cell (World.block_lt_of_cell? w _ hx191_1)).trans hx191_1
         replace hx191_2:=(HB.out.cell (World.block_lt_of_cell? w _ hx191_2)).trans hx191_2
         replace p191:=eq_true p191
         replace q191:=eq_true q191
         go_wp2_with (first|((with_reducible refine gate_dst (N:=9) rfl ?_);refine box_event ?hg (N:=9) ?hd (cs:=#[.int .i64 0,.int .i64 0,.int .i64 0]) (t:=42) ?hr ?_;(case hd=>rfl);(case hg=>rfl);(case hr=>first|(go_simp;done)|(go_simp;rfl));intro gb192 hg w18 hbox hb;have n0_:=Aside0.mk (blk_below (g:=gb190) (o:=.cells #[.int .i64 a0_0,.int .i64 a0_1,.slice (some ad191) l0_2.length c0_2,.int .u32 a0_3,.int .u32 a0_4] 35 (0,0)) (by (with_reducible repeat (first|refine blk_drewN ?_ _|refine blk_drew ?_|refine blk_alloc ?_ _));exact BK190.out) hb);have n1_:=Aside0.mk (below_step (by repeat (first|(with_reducible first|exact HB.out|apply below_alloc|apply pw_below_drewN|apply below_drew1|refine below_set ?_ GE190.out)|exact HB.out)) hb);have n2_:=Aside0.mk (hbox);have n3_:=Aside0.mk ((by rw [hg];exact (below_size (by repeat (first|(with_reducible first|exact HB.out|apply below_alloc|apply pw_below_drewN|apply below_drew1|refine below_set ?_ GE190.out)|exact HB.out))) : w.heap.size ≤ gb192));have n4_:=Aside0.mk ((by rw [hg];exact (below_size (by repeat (first|(with_reducible first|exact HB.out|apply below_alloc|apply pw_below_drewN|apply below_drew1|refine below_set ?_ GE190.out)|exact HB.out))) : w.heap.size ≤ gb192));have n5_:=Aside0.mk ((by rw [hg];exact Nat.ne_of_lt (blk_lt (g:=gb190) (o:=.cells #[.int .i64 a0_0,.int .i64 a0_1,.slice (some ad191) l0_2.length c0_2,.int .u32 a0_3,.int .u32 a0_4] 35 (0,0)) (by (with_reducible repeat (first|refine blk_drewN ?_ _|refine blk_drew ?_|refine blk_alloc ?_ _));exact BK190.out)) : gb190 ≠ gb192));have n6_:=Aside0.mk ((by rw [hg];exact Nat.ne_of_gt (blk_lt (g:=gb190) (o:=.cells #[.int .i64 a0_0,.int .i64 a0_1,.slice (some ad191) l0_2.length c0_2,.int .u32 a0_3,.int .u32 a0_4] 35 (0,0)) (by (with_reducible repeat (first|refine blk_drewN ?_ _|refine blk_drew ?_|refine blk_alloc ?_ _));exact BK190.out)) : gb192 ≠ gb190));clear BK190;clear HB;have BK190:=n0_;have HB:=n1_;have BK192:=n2_;have GW192:=n3_;have GE192:=n4_;have NB190_192:=n5_;have NB192_190:=n6_;clear n0_ n1_ n2_ n3_ n4_ n5_ n6_;clear hb hbox hg;have hnb19:=NB192_190.out;have hnc19:=NB190_192.out;have hcz20_0 : w18.cell? ⟨gb192,0,none⟩ = some (.int .i64 0):=(blk_cell BK192.out 0).trans rfl;have hcz20_1 : w18.cell? ⟨gb192,1,none⟩ = some (.int .i64 0):=(blk_cell BK192.out 1).trans rfl;have hcz20_2 : w18.cell? ⟨gb192,2,none⟩ = some (.int .i64 0):=(blk_cell BK192.out 2).trans rfl;have hfz20_0:=blk_frozen BK192.out 0;have hfz20_1:=blk_frozen BK192.out 1;have hfz20_2:=blk_frozen BK192.out 2))
         first|go_roundg k1|((simp only [← hji11]);go_roundg k1)
         case measure=>have:=HK1.out;omega
         case rel=>exact ⟨(x7_1),(wrap64 (x13_1 + 1)),(by first|rfl|(simp;done)|(simp [*];done)),(by first|rfl|(simp;done)|(simp [*];done)),(by first|exact H'|((simp only [hji11]);exact H')|(have h_:=H'.out;simp only [← hji11] at h_ ⊢;exact ⟨h_⟩)),⟨by have:=HK1.out;omega⟩,⟨by (with_reducible repeat (first|refine blk_drewN ?_ _|refine blk_drew ?_|refine blk_alloc ?_ _));refine blk_far ?_ NB190_192.out _;(with_reducible repeat (first|refine blk_drewN ?_ _|refine blk_drew ?_|refine blk_alloc ?_ _));refine blk_far ?_ NB190_192.out _;(with_reducible repeat (first|refine blk_drewN ?_ _|refine blk_drew ?_|refine blk_alloc ?_ _));refine blk_far ?_ NB190_192.out _;(with_reducible repeat (first|refine blk_drewN ?_ _|refine blk_drew ?_|refine blk_alloc ?_ _));(first|exact BK190.out|(have h_:=BK190.out;simp only [← hji11] at h_;exact h_))⟩,⟨by repeat (first|(with_reducible first|exact HB.out|apply below_alloc|apply pw_below_drewN|apply below_drew1|refine below_set ?_ GE190.out|refine below_set ?_ GE192.out)|exact HB.out)⟩⟩
       ·rw [if_neg c10] at H
        exact absurd H (by simp)
      ·rw [if_neg c9] at H
       have c9b0 : (((rd_T42 l0_2 x13_1).f1) == a2) = false:=beq_eq_false_iff_ne.mpr c9
       have c9b1 : (((rd_T42 l0_2 x13_1).f1) != a2) = true:=bne_iff_ne.mpr c9
       have H':=Aside0.mk H
       clear H
       have p191 : 0 ≤ (x13_1 : Int):=of_decide_eq_true (by first|(with_reducible assumption)|assumption)
       have q191 : x13_1 < (l0_2.length : Int):=of_decide_eq_true (by first|(with_reducible assumption)|assumption)
       obtain ⟨ad191,e191,hx191_0,hx191_1,hx191_2⟩:=at_T42 HR0_2.out x13_1 p191 q191
       cases e191
       replace hx191_0:=(HB.out.cell (World.block_lt_of_cell? w _ hx191_0)).trans hx191_0
       replace hx191_1:=(HB.out.cell (World.block_lt_of_cell? w _ hx191_1)).trans hx191_1
       replace hx191_2:=(HB.out.cell (World.block_lt_of_cell? w _ hx191_2)).trans hx191_2
       replace p191:=eq_true p191
       replace q191:=eq_true q191
       go_wp2_with (first|((with_reducible refine gate_dst (N:=9) rfl ?_);refine box_event ?hg (N:=9) ?hd (cs:=#[.int .i64 0,.int .i64 0,.int .i64 0]) (t:=42) ?hr ?_;(case hd=>rfl);(case hg=>rfl);(case hr=>first|(go_simp;done)|(go_simp;rfl));intro gb192 hg w21 hbox hb;have n0_:=Aside0.mk (blk_below (g:=gb190) (o:=.cells #[.int .i64 a0_0,.int .i64 a0_1,.slice (some ad191) l0_2.length c0_2,.int .u32 a0_3,.int .u32 a0_4] 35 (0,0)) (by (with_reducible repeat (first|refine blk_drewN ?_ _|refine blk_drew ?_|refine blk_alloc ?_ _));exact BK190.out) hb);have n1_:=Aside0.mk (below_step (by repeat (first|(with_reducible first|exact HB.out|apply below_alloc|apply pw_below_drewN|apply below_drew1|refine below_set ?_ GE190.out)|exact HB.out)) hb);have n2_:=Aside0.mk (hbox);have n3_:=Aside0.mk ((by rw [hg];exact (below_size (by repeat (first|(with_reducible first|exact HB.out|apply below_alloc|apply pw_below_drewN|apply below_drew1|refine below_set ?_ GE190.out)|exact HB.out))) : w.heap.size ≤ gb192));have n4_:=Aside0.mk ((by rw [hg];exact (below_size (by repeat (first|(with_reducible first|exact HB.out|apply below_alloc|apply pw_below_drewN|apply below_drew1|refine below_set ?_ GE190.out)|exact HB.out))) : w.heap.size ≤ gb192));have n5_:=Aside0.mk ((by rw [hg];exact Nat.ne_of_lt (blk_lt (g:=gb190) (o:=.cells #[.int .i64 a0_0,.int .i64 a0_1,.slice (some ad191) l0_2.length c0_2,.int .u32 a0_3,.int .u32 a0_4] 35 (0,0)) (by (with_reducible repeat (first|refine blk_drewN ?_ _|refine blk_drew ?_|refine blk_alloc ?_ _));exact BK190.out)) : gb190 ≠ gb192));have n6_:=Aside0.mk ((by rw [hg];exact Nat.ne_of_gt (blk_lt (g:=gb190) (o:=.cells #[.int .i64 a0_0,.int .i64 a0_1,.slice (some ad191) l0_2.length c0_2,.int .u32 a0_3,.int .u32 a0_4] 35 (0,0)) (by (with_reducible repeat (first|refine blk_drewN ?_ _|refine blk_drew ?_|refine blk_alloc ?_ _));exact BK190.out)) : gb192 ≠ gb190));clear BK190;clear HB;have BK190:=n0_;have HB:=n1_;have BK192:=n2_;have GW192:=n3_;have GE192:=n4_;have NB190_192:=n5_;have NB192_190:=n6_;clear n0_ n1_ n2_ n3_ n4_ n5_ n6_;clear hb hbox hg;have hnb22:=NB192_190.out;have hnc22:=NB190_192.out;have hcz23_0 : w21.cell? ⟨gb192,0,none⟩ = some (.int .i64 0):=(blk_cell BK192.out 0).trans rfl;have hcz23_1 : w21.cell? ⟨gb192,1,none⟩ = some (.int .i64 0):=(blk_cell BK192.out 1).trans rfl;have hcz23_2 : w21.cell? ⟨gb192,2,none⟩ = some (.int .i64 0):=(blk_cell BK192.out 2).trans rfl;have hfz23_0:=blk_frozen BK192.out 0;have hfz23_1:=blk_frozen BK192.out 1;have hfz23_2:=blk_frozen BK192.out 2))
       go_roundg k1
       case measure=>have:=HK1.out;omega
       case rel=>exact ⟨(x7_1),(wrap64 (x13_1 + 1)),(by first|rfl|(simp;done)|(simp [*];done)),(by first|rfl|(simp;done)|(simp [*];done)),H',⟨by have:=HK1.out;omega⟩,⟨by (with_reducible repeat (first|refine blk_drewN ?_ _|refine blk_drew ?_|refine blk_alloc ?_ _));refine blk_far ?_ NB190_192.out _;(with_reducible repeat (first|refine blk_drewN ?_ _|refine blk_drew ?_|refine blk_alloc ?_ _));refine blk_far ?_ NB190_192.out _;(with_reducible repeat (first|refine blk_drewN ?_ _|refine blk_drew ?_|refine blk_alloc ?_ _));refine blk_far ?_ NB190_192.out _;(with_reducible repeat (first|refine blk_drewN ?_ _|refine blk_drew ?_|refine blk_alloc ?_ _));exact BK190.out⟩,⟨by repeat (first|(with_reducible first|exact HB.out|apply below_alloc|apply pw_below_drewN|apply below_drew1|refine below_set ?_ GE190.out|refine below_set ?_ GE192.out)|exact HB.out)⟩⟩
     ·rw [if_neg c8] at H
      exact absurd H (by simp)
    ·rw [if_neg c7] at H
     exact absurd H (by simp)
   ·rw [if_neg c6] at H
    have c6b0 : decide (x13_1 < (l0_2.length : Int)) = false:=decide_eq_false c6
    clear c6
    replace H:=Option.bind_eq_some_iff.mp H
    obtain ⟨t193,A240,H⟩:=H
    replace H : (some t193) = some r:=H
    have A24:=Aside0.mk A240
    clear A240
    obtain rfl:=Option.some.inj H
    have hcz25_0 : wr.cell? ⟨gb190,0,none⟩ = some (.int .i64 a0_0):=(blk_cell BK190.out 0).trans rfl
    have hcz25_1 : wr.cell? ⟨gb190,1,none⟩ = some (.int .i64 a0_1):=(blk_cell BK190.out 1).trans rfl
    have hcz25_2 : wr.cell? ⟨gb190,2,none⟩ = some (.slice A0_2 l0_2.length c0_2):=(blk_cell BK190.out 2).trans rfl
    have hcz25_3 : wr.cell? ⟨gb190,3,none⟩ = some (.int .u32 a0_3):=(blk_cell BK190.out 3).trans rfl
    have hcz25_4 : wr.cell? ⟨gb190,4,none⟩ = some (.int .u32 a0_4):=(blk_cell BK190.out 4).trans rfl
    have hfz25_0:=blk_frozen BK190.out 0
    have hfz25_1:=blk_frozen BK190.out 1
    have hfz25_2:=blk_frozen BK190.out 2
    have hfz25_3:=blk_frozen BK190.out 3
    have hfz25_4:=blk_frozen BK190.out 4
    go_wp2_with (first|((with_reducible refine gate_callee (f:=44) rfl ?_);refine goesL_ (some 37) rfl rfl Try.func44 (by kernel_rfl) rfl #[.agg #[.int .i64 a0_0,.int .i64 a0_1,.slice A0_2 l0_2.length c0_2,.int .u32 a0_3,.int .u32 a0_4],.int .u32 x7_1] rfl (by (try simp only [List.map_toArray,List.map_cons,List.map_nil]);first|done|rfl|(simp only [List.length_drop,List.length_take];rfl)) ?_;(with_reducible refine (net_Free.calls k1 a0_0 a0_1 _ _ l0_2 a0_3 a0_4 x7_1 t193 _ ?side1 ?side2 A24.out).mono ?_);(case side1=>repeat (first|exact (Kd.C_below HR0_2.out HB.out)|(with_reducible refine Kd.C_alloc ?_ _)|(with_reducible refine Kd.C_drewN ?_ _)|(with_reducible refine Kd.C_drew ?_)));(case side2=>exact HC0_2.out);rintro e w26 ⟨rfl,hb⟩;refine ⟨_,rfl,?_⟩;have n0_:=Aside0.mk (blk_below (g:=gb190) (o:=.cells #[.int .i64 a0_0,.int .i64 a0_1,.slice A0_2 l0_2.length c0_2,.int .u32 a0_3,.int .u32 a0_4] 35 (0,0)) (by (with_reducible repeat (first|refine blk_drewN ?_ _|refine blk_drew ?_|refine blk_alloc ?_ _));exact BK190.out) hb);have n1_:=Aside0.mk (below_step (by repeat (first|(with_reducible first|exact HB.out|apply below_alloc|apply pw_below_drewN|apply below_drew1|refine below_set ?_ GE190.out)|exact HB.out)) hb);clear BK190;clear HB;have BK190:=n0_;have HB:=n1_;clear n0_ n1_;(try clear hb);(try clear hb2);(try clear hk);(try clear hi)))
    go_ret
    exact ⟨by first|rfl|(simp [errW_none,errW_some] <;> rfl)|(simp [*,errW_none,errW_some] <;> rfl),by repeat (first|(with_reducible first|exact HB.out|apply below_alloc|apply pw_below_drewN|apply below_drew1|refine below_set ?_ GE190.out)|exact HB.out)⟩
end Go.Proofs.Ytkalcljgcigdgaa.GS
