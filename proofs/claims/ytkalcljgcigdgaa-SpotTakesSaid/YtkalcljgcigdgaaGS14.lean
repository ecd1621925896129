-- Written by ext.py, a program of this session.
import Derived.Test.YtkalcljgcigdgaaGS0
namespace Go.Proofs.Ytkalcljgcigdgaa.GS
open Go.RowKit Go.Proofs.YtkalcljgcigdgaaW.PrintWords Go.Proofs.YtkalcljgcigdgaaW.PrintLast Go.Proofs.YtkalcljgcigdgaaW.PrintMore
attribute [local go_sem] max2_int min2_int max_two min_two max_three min_three max_four min_four cellIs_set   -- for this text's walks alone
set_option linter.unusedVariables false
set_option linter.unusedSimpArgs false
/-! ### net_Free: function 44 -/
mutual
def net_Free.l0 : Nat → Int → Bool → Int → Int → List (S42) → Int → Int → Option (Int)
 | 0,_,_,_,_,_,_,_=>none
 | k + 1,x1,x5,x188000,x188001,x188002,x188003,x188004=>if x5 = true then (net_Free.l1 k x1 x1 x188002 (x188002.length : Int) 0 x188000 x188001 x188002 x188003 x188004) else (some x1)
def net_Free.l1 : Nat → Int → Int → List (S42) → Int → Int → Int → Int → List (S42) → Int → Int → Option (Int)
 | 0,_,_,_,_,_,_,_,_,_,_=>none
 | k + 1,x1,x6,x12,x13,x14,x188000,x188001,x188002,x188003,x188004=>if x14 < x13 then (if 0 ≤ x14 then (if x14 < (x12.length : Int) then (if ((rd_T42 x12 x14).f1) < 0 then (if 0 ≤ ((rd_T42 x12 x14).f0) then (if (Go.bits .and .u32 (shr .u32 x1 ((rd_T42 x12 x14).f0)) 1) = 1 then (if 0 ≤ ((rd_T42 x12 x14).f2) then (net_Free.l1 k (Go.bits .or .u32 x1 (shl .u32 1 ((rd_T42 x12 x14).f2))) x6 x12 x13 (wrap64 (x14 + 1)) x188000 x188001 x188002 x188003 x188004) else (none)) else (net_Free.l1 k x1 x6 x12 x13 (wrap64 (x14 + 1)) x188000 x188001 x188002 x188003 x188004)) else (none)) else (net_Free.l1 k x1 x6 x12 x13 (wrap64 (x14 + 1)) x188000 x188001 x188002 x188003 x188004)) else (none)) else (none)) else (net_Free.l0 k x1 (x1 != x6) x188000 x188001 x188002 x188003 x188004)
end
def net_Free.f (k : Nat) (a0_0 : Int) (a0_1 : Int) (l0_2 : List (S42)) (a0_3 : Int) (a0_4 : Int) (a1 : Int) : Option (Int):=net_Free.l0 k a1 true a0_0 a0_1 l0_2 a0_3 a0_4
theorem net_Free.mono_l : ∀ k,(∀ y0 y1 y2 y3 y4 y5 y6,LeO (net_Free.l0 k y0 y1 y2 y3 y4 y5 y6) (net_Free.l0 (k + 1) y0 y1 y2 y3 y4 y5 y6)) ∧ (∀ y0 y1 y2 y3 y4 y5 y6 y7 y8 y9,LeO (net_Free.l1 k y0 y1 y2 y3 y4 y5 y6 y7 y8 y9) (net_Free.l1 (k + 1) y0 y1 y2 y3 y4 y5 y6 y7 y8 y9))
 | 0=>⟨fun _ _ _ _ _ _ _ r h=>by simp [net_Free.l0] at h,fun _ _ _ _ _ _ _ _ _ _ r h=>by simp [net_Free.l1] at h⟩
 | k + 1=>by
  obtain ⟨ih0,ih1⟩:=net_Free.mono_l k
  refine ⟨?_,?_⟩
  ·intro y0 y1 y2 y3 y4 y5 y6
   unfold net_Free.l0
   repeat' first
   | (with_reducible exact ih0 _ _ _ _ _ _ _)
   | (with_reducible exact ih1 _ _ _ _ _ _ _ _ _ _)
   | (with_reducible exact LeO.refl _)
   | (with_reducible exact LeO.none _)
   | (with_reducible refine LeO.ite ?_ ?_)
   | (with_reducible refine LeO.bind ?_ (fun _=>?_))
   | exact ih0 _ _ _ _ _ _ _
   | exact ih1 _ _ _ _ _ _ _ _ _ _
   | exact LeO.none _
   | refine LeO.ite ?_ ?_
   | refine LeO.bind ?_ (fun _=>?_)
  ·intro y0 y1 y2 y3 y4 y5 y6 y7 y8 y9
   unfold net_Free.l1
   repeat' first
   | (with_reducible exact ih0 _ _ _ _ _ _ _)
   | (with_reducible exact ih1 _ _ _ _ _ _ _ _ _ _)
   | (with_reducible exact LeO.refl _)
   | (with_reducible exact LeO.none _)
   | (with_reducible refine LeO.ite ?_ ?_)
   | (with_reducible refine LeO.bind ?_ (fun _=>?_))
   | exact ih0 _ _ _ _ _ _ _
   | exact ih1 _ _ _ _ _ _ _ _ _ _
   | exact LeO.none _
   | refine LeO.ite ?_ ?_
   | refine LeO.bind ?_ (fun _=>?_)
theorem net_Free.mono : ∀ a0 a1 a2 a3 a4 a5 k,LeO (net_Free.f k a0 a1 a2 a3 a4 a5) (net_Free.f (k + 1) a0 a1 a2 a3 a4 a5):=by
 intro a0 a1 a2 a3 a4 a5 k
 obtain ⟨ih0,ih1⟩:=net_Free.mono_l k
 unfold net_Free.f
 repeat' first
   | (with_reducible exact ih0 _ _ _ _ _ _ _)
   | (with_reducible exact ih1 _ _ _ _ _ _ _ _ _ _)
   | (with_reducible exact LeO.refl _)
   | (with_reducible exact LeO.none _)
   | (with_reducible refine LeO.ite ?_ ?_)
   | (with_reducible refine LeO.bind ?_ (fun _=>?_))
   | exact ih0 _ _ _ _ _ _ _
   | exact ih1 _ _ _ _ _ _ _ _ _ _
   | exact LeO.none _
   | refine LeO.ite ?_ ?_
   | refine LeO.bind ?_ (fun _=>?_)
set_option maxHeartbeats 8000000 in
set_option maxRecDepth 100000 in
theorem net_Free.calls (k : Nat) (a0_0 : Int) (a0_1 : Int) (A0_2 : Option Addr) (c0_2 : Nat) (l0_2 : List (S42)) (a0_3 : Int) (a0_4 : Int) (a1 : Int) (r : Int) (w : World) (hr0_2 : Kd.C k42 w A0_2 l0_2.length l0_2) (hc0_2 : l0_2.length ≤ c0_2) (h : net_Free.f k a0_0 a0_1 l0_2 a0_3 a0_4 a1 = some r) :
  Calls Try.prog 44 #[.agg #[.int .i64 a0_0,.int .i64 a0_1,.slice A0_2 l0_2.length c0_2,.int .u32 a0_3,.int .u32 a0_4],.int .u32 a1] w fun e w'=>e = .returned (.int .u32 r) ∧ Below w.heap.size w w':=by
 have hu35:=Try.underlying35
 have hu42:=Try.underlying42
 have HR0_2:=Aside0.mk hr0_2
 have HC0_2:=Aside0.mk hc0_2
 clear hr0_2 hc0_2
 have HB:=Aside0.mk (Below.refl w.heap.size w)
 have H : (net_Free.l0 k a1 true a0_0 a0_1 l0_2 a0_3 a0_4) = some r:=h
 clear h
 have H':=Aside0.mk H
 clear H
 go_enter Try.func44,Try.ntmps44
 go_wp2_with (first|((with_reducible refine gate_dst (N:=2) rfl ?_);refine box_event ?hg (N:=2) ?hd (cs:=#[.int .i64 a0_0,.int .i64 a0_1,.slice A0_2 l0_2.length c0_2,.int .u32 a0_3,.int .u32 a0_4]) (t:=35) ?hr ?_;(case hd=>rfl);(case hg=>rfl);(case hr=>first|(go_simp;done)|(go_simp;rfl));intro gb187 hg w3 hbox hb;have n0_:=Aside0.mk (below_step (by repeat (first|(with_reducible first|exact HB.out|apply below_alloc|apply pw_below_drewN|apply below_drew1)|exact HB.out)) hb);have n1_:=Aside0.mk (hbox);have n2_:=Aside0.mk ((by rw [hg];exact (below_size (by repeat (first|(with_reducible first|exact HB.out|apply below_alloc|apply pw_below_drewN|apply below_drew1)|exact HB.out))) : w.heap.size ≤ gb187));have n3_:=Aside0.mk ((by rw [hg];exact (below_size (by repeat (first|(with_reducible first|exact HB.out|apply below_alloc|apply pw_below_drewN|apply below_drew1)|exact HB.out))) : w.heap.size ≤ gb187));clear HB;have HB:=n0_;have BK187:=n1_;have GW187:=n2_;have GE187:=n3_;clear n0_ n1_ n2_ n3_;clear hb hbox hg))
 go_loopg [1,5] k (fun kq v1 v5 w'=>∃ (x1_1 : Int) (x5_1 : Bool),v1 = .int .u32 x1_1 ∧ v5 = .bool x5_1 ∧ Aside0 (net_Free.l0 kq x1_1 x5_1 a0_0 a0_1 l0_2 a0_3 a0_4 = some r) ∧ Aside0 (kq ≤ k) ∧ Aside0 (w'.heap[gb187]? = some (.cells #[.int .i64 a0_0,.int .i64 a0_1,(.slice A0_2 l0_2.length c0_2),.int .u32 a0_3,.int .u32 a0_4] 35 (0,0))) ∧ Aside0 (Below w.heap.size w w'))
 case atStart=>exact ⟨(a1),(true),(by first|rfl|(simp;done)|(simp [*];done)),(by first|rfl|(simp;done)|(simp [*];done)),H',⟨Nat.le_refl _⟩,⟨by (with_reducible repeat (first|refine blk_drewN ?_ _|refine blk_drew ?_|refine blk_alloc ?_ _));exact BK187.out⟩,⟨by repeat (first|(with_reducible first|exact HB.out|apply below_alloc|apply pw_below_drewN|apply below_drew1|refine below_set ?_ GE187.out)|exact HB.out)⟩⟩
 case round =>
  clear H'
  try clear p2
  obtain ⟨x1_1,x5_1,rfl,rfl,HA,HK1,BK187,HB⟩:=hrel
  cases gk with
  | zero=>exact absurd HA.out (by simp [net_Free.l0])
  | succ k1 =>
   have H:=HA.out
   clear HA
   simp only [net_Free.l0] at H
   by_cases c4 : x5_1 = true
   ·subst c4
    have H1 : (net_Free.l1 k1 x1_1 x1_1 l0_2 (l0_2.length : Int) 0 a0_0 a0_1 l0_2 a0_3 a0_4) = some r:=by rw [if_pos rfl] at H;exact H
    clear H
    have H:=H1
    clear H1
    have H':=Aside0.mk H
    clear H
    have hcz5_0 : wr.cell? ⟨gb187,0,none⟩ = some (.int .i64 a0_0):=(blk_cell BK187.out 0).trans rfl
    have hcz5_1 : wr.cell? ⟨gb187,1,none⟩ = some (.int .i64 a0_1):=(blk_cell BK187.out 1).trans rfl
    have hcz5_2 : wr.cell? ⟨gb187,2,none⟩ = some (.slice A0_2 l0_2.length c0_2):=(blk_cell BK187.out 2).trans rfl
    have hcz5_3 : wr.cell? ⟨gb187,3,none⟩ = some (.int .u32 a0_3):=(blk_cell BK187.out 3).trans rfl
    have hcz5_4 : wr.cell? ⟨gb187,4,none⟩ = some (.int .u32 a0_4):=(blk_cell BK187.out 4).trans rfl
    have hfz5_0:=blk_frozen BK187.out 0
    have hfz5_1:=blk_frozen BK187.out 1
    have hfz5_2:=blk_frozen BK187.out 2
    have hfz5_3:=blk_frozen BK187.out 3
    have hfz5_4:=blk_frozen BK187.out 4
    go_wp2
    go_loopg [1,14] k1 (fun kq v1 v14 w'=>∃ (x1_2 : Int) (x14_2 : Int),v1 = .int .u32 x1_2 ∧ v14 = .int .i64 x14_2 ∧ Aside0 (net_Free.l1 kq x1_2 x1_1 l0_2 (l0_2.length : Int) x14_2 a0_0 a0_1 l0_2 a0_3 a0_4 = some r) ∧ Aside0 (kq ≤ k1) ∧ Aside0 (w'.heap[gb187]? = some (.cells #[.int .i64 a0_0,.int .i64 a0_1,(.slice A0_2 l0_2.length c0_2),.int .u32 a0_3,.int .u32 a0_4] 35 (0,0))) ∧ Aside0 (Below w.heap.size w w'))
    case atStart=>exact ⟨(x1_1),(0),(by first|rfl|(simp;done)|(simp [*];done)),(by first|rfl|(simp;done)|(simp [*];done)),H',⟨Nat.le_refl _⟩,⟨by (with_reducible repeat (first|refine blk_drewN ?_ _|refine blk_drew ?_|refine blk_alloc ?_ _));exact BK187.out⟩,⟨by repeat (first|(with_reducible first|exact HB.out|apply below_alloc|apply pw_below_drewN|apply below_drew1|refine below_set ?_ GE187.out)|exact HB.out)⟩⟩
    case round =>
     clear H'
     try clear p2
     try clear c4
     try clear hcz5_0
     try clear hcz5_1
     try clear hcz5_2
     try clear hcz5_3
     try clear hcz5_4
     try clear hfz5_0
     try clear hfz5_1
     try clear hfz5_2
     try clear hfz5_3
     try clear hfz5_4
     try clear p2
     obtain ⟨x1_2,x14_2,rfl,rfl,HA,HK2,BK187,HB⟩:=hrel
     cases gk with
     | zero=>exact absurd HA.out (by simp [net_Free.l1])
     | succ k2 =>
      have H:=HA.out
      clear HA
      simp only [net_Free.l1] at H
      by_cases c6 : x14_2 < (l0_2.length : Int)
      ·rw [if_pos c6] at H
       have c6b0 : decide (x14_2 < (l0_2.length : Int)) = true:=decide_eq_true c6
       clear c6
       by_cases c7 : 0 ≤ x14_2
       ·rw [if_pos c7] at H
        have c7b0 : decide (0 ≤ x14_2) = true:=decide_eq_true c7
        clear c7
        by_cases c8 : x14_2 < (l0_2.length : Int)
        ·rw [if_pos c8] at H
         have c8b0 : decide (x14_2 < (l0_2.length : Int)) = true:=decide_eq_true c8
         clear c8
         by_cases c9 : ((rd_T42 l0_2 x14_2).f1) < 0
         ·rw [if_pos c9] at H
          have c9b0 : decide (((rd_T42 l0_2 x14_2).f1) < 0) = true:=decide_eq_true c9
          clear c9
          by_cases c10 : 0 ≤ ((rd_T42 l0_2 x14_2).f0)
          ·rw [if_pos c10] at H
           have c10b0:=eq_true c10
           have c10b1 : decide (0 ≤ ((rd_T42 l0_2 x14_2).f0)) = true:=decide_eq_true c10
           clear c10
           obtain ⟨ji11,hji11⟩ : ∃ j_ : Int,(shr .u32 x1_2 ((rd_T42 l0_2 x14_2).f0)) = j_:=⟨_,rfl⟩
           replace H : (if (Go.bits .and .u32 (ji11) 1) = 1 then (if 0 ≤ ((rd_T42 l0_2 x14_2).f2) then (net_Free.l1 k2 (Go.bits .or .u32 x1_2 (shl .u32 1 ((rd_T42 l0_2 x14_2).f2))) x1_1 l0_2 (l0_2.length : Int) (wrap64 (x14_2 + 1)) a0_0 a0_1 l0_2 a0_3 a0_4) else (none)) else (net_Free.l1 k2 x1_2 x1_1 l0_2 (l0_2.length : Int) (wrap64 (x14_2 + 1)) a0_0 a0_1 l0_2 a0_3 a0_4)) = some r:=by first|(rw [hji11] at H;exact H)|(simp only [hji11] at H ⊢;exact H)
           have hji11_ : (x1_2 / 2 ^ min ((rd_T42 l0_2 x14_2).f0).toNat 32) = ji11:=hji11
           have hji11z : ((rd_T42 l0_2 x14_2).f0) ≤ 32 → (x1_2 / 2 ^ ((rd_T42 l0_2 x14_2).f0).toNat) = ji11:=shr_small hji11
           by_cases c12 : (Go.bits .and .u32 (ji11) 1) = 1
           ·rw [if_pos c12] at H
            have c12b0 : ((Go.bits .and .u32 (ji11) 1) == 1) = true:=beq_iff_eq.mpr c12
            have c12b1 : ((Go.bits .and .u32 (ji11) 1) != 1) = false:=bne_eq_false_iff_eq.mpr c12
            clear c12
            by_cases c13 : 0 ≤ ((rd_T42 l0_2 x14_2).f2)
            ·rw [if_pos c13] at H
             have c13b0:=eq_true c13
             have c13b1 : decide (0 ≤ ((rd_T42 l0_2 x14_2).f2)) = true:=decide_eq_true c13
             clear c13
             obtain ⟨ji14,hji14⟩ : ∃ j_ : Int,(shl .u32 1 ((rd_T42 l0_2 x14_2).f2)) = j_:=⟨_,rfl⟩
             replace H : (net_Free.l1 k2 (Go.bits .or .u32 x1_2 (ji14)) x1_1 l0_2 (l0_2.length : Int) (wrap64 (x14_2 + 1)) a0_0 a0_1 l0_2 a0_3 a0_4) = some r:=by first|(rw [hji14] at H;exact H)|(simp only [hji14] at H ⊢;exact H)
             have hji14_ : (IntKind.u32.wrap (1 * 2 ^ min ((rd_T42 l0_2 x14_2).f2).toNat 32)) = ji14:=hji14
             have hji14z : ((rd_T42 l0_2 x14_2).f2) ≤ 32 → (IntKind.u32.wrap (1 * 2 ^ ((rd_T42 l0_2 x14_2).f2).toNat)) = ji14:=shl_small hji14
             have hji14u : (IntKind.u32.wrap (2 ^ min ((rd_T42 l0_2 x14_2).f2).toNat 32)) = ji14:=by have h_:=hji14_;rw [Int.one_mul] at h_;exact h_
             have hji14v : ((rd_T42 l0_2 x14_2).f2) ≤ 32 → (IntKind.u32.wrap (2 ^ ((rd_T42 l0_2 x14_2).f2).toNat)) = ji14:=fun hle_=>by have h_:=hji14z hle_;rw [Int.one_mul] at h_;exact h_
             have H':=Aside0.mk H
             clear H
             have p188 : 0 ≤ (x14_2 : Int):=of_decide_eq_true (by first|(with_reducible assumption)|assumption)
             have q188 : x14_2 < (l0_2.length : Int):=of_decide_eq_true (by first|(with_reducible assumption)|assumption)
             obtain ⟨ad188,e188,hx188_0,hx188_1,hx188_2⟩:=at_T42 HR0_2.out x14_2 p188 q188
             cases e188
             replace hx188_0:=(HB.out.cell (World.block_lt_of_cell? w _ hx188_0)).trans hx188_0
             replace hx188_1:=(HB.out.cell (World.block_lt_of_cell? w _ hx188_1)).trans hx188_1
             replace hx188_2:=(HB.out.cell (World.block_lt_of_cell? w _ hx188_2)).trans hx188_2
             replace p188:=eq_true p188
             replace q188:=eq_true q188
             go_wp2_with (first|((with_reducible refine gate_dst (N:=8) rfl ?_);refine box_event ?hg (N:=8) ?hd (cs:=#[.int .i64 0,.int .i64 0,.int .i64 0]) (t:=42) ?hr ?_;(case hd=>rfl);(case hg=>rfl);(case hr=>first|(go_simp;done)|(go_simp;rfl));intro gb189 hg w15 hbox hb;have n0_:=Aside0.mk (blk_below (g:=gb187) (o:=.cells #[.int .i64 a0_0,.int .i64 a0_1,.slice (some ad188) l0_2.length c0_2,.int .u32 a0_3,.int .u32 a0_4] 35 (0,0)) (by (with_reducible repeat (first|refine blk_drewN ?_ _|refine blk_drew ?_|refine blk_alloc ?_ _));exact BK187.out) hb);have n1_:=Aside0.mk (below_step (by repeat (first|(with_reducible first|exact HB.out|apply below_alloc|apply pw_below_drewN|apply below_drew1|refine below_set ?_ GE187.out)|exact HB.out)) hb);have n2_:=Aside0.mk (hbox);have n3_:=Aside0.mk ((by rw [hg];exact (below_size (by repeat (first|(with_reducible first|exact HB.out|apply below_alloc|apply pw_below_drewN|apply below_drew1|refine below_set ?_ GE187.out)|exact HB.out))) : w.heap.size ≤ gb189));have n4_:=Aside0.mk ((by rw [hg];exact (below_size (by repeat (first|(with_reducible first|exact HB.out|apply below_alloc|apply pw_below_drewN|apply below_drew1|refine below_set ?_ GE187.out)|exact HB.out))) : w.heap.size ≤ gb189));have n5_:=Aside0.mk ((by rw [hg];exact Nat.ne_of_lt (blk_lt (g:=gb187) (o:=.cells #[.int .i64 a0_0,.int .i64 a0_1,.slice (some ad188) l0_2.length c0_2,.int .u32 a0_3,.int .u32 a0_4] 35 (0,0)) (by (with_reducible repeat (first|refine blk_drewN ?_ _|refine blk_drew ?_|refine blk_alloc ?_ _));exact BK187.out)) : gb187 ≠ gb189));have n6_:=Aside0.mk ((by rw [hg];exact Nat.ne_of_gt (blk_lt (g:=gb187) (o:=.cells #[.int .i64 a0_0,.int .i64 a0_1,.slice (some ad188) l0_2.length c0_2,.int .u32 a0_3,.int .u32 a0_4] 35 (0,0)) (by (with_reducible repeat (first|refine blk_drewN ?_ _|refine blk_drew ?_|refine blk_alloc ?_ _));exact BK187.out)) : gb189 ≠ gb187));clear BK187;clear HB;have BK187:=n0_;have HB:=n1_;have BK189:=n2_;have GW189:=n3_;have GE189:=n4_;have NB187_189:=n5_;have NB189_187:=n6_;clear n0_ n1_ n2_ n3_ n4_ n5_ n6_;clear hb hbox hg;have hnb16:=NB189_187.out;have hnc16:=NB187_189.out;have hcz17_0 : w15.cell? ⟨gb189,0,none⟩ = some (.int .i64 0):=(blk_cell BK189.out 0).trans rfl;have hcz17_1 : w15.cell? ⟨gb189,1,none⟩ = some (.int .i64 0):=(blk_cell BK189.out 1).trans rfl;have hcz17_2 : w15.cell? ⟨gb189,2,none⟩ = some (.int .i64 0):=(blk_cell BK189.out 2).trans rfl;have hfz17_0:=blk_frozen BK189.out 0;have hfz17_1:=blk_frozen BK189.out 1;have hfz17_2:=blk_frozen BK189.out 2))
             first|go_roundg k2|((simp only [← hji11,← hji14]);go_roundg k2)
             case measure=>have:=HK1.out;have:=HK2.out;omega
             case rel=>exact ⟨(Go.bits .or .u32 x1_2 (ji14)),(wrap64 (x14_2 + 1)),(by first|rfl|(simp;done)|(simp only [← hji14] <;> (first|rfl|simp))|(simp [*];done)),(by first|rfl|(simp;done)|(simp [*];done)),(by first|exact H'|((simp only [hji11,hji14]);exact H')|(have h_:=H'.out;simp only [← hji11,← hji14] at h_ ⊢;exact ⟨h_⟩)),⟨by have:=HK1.out;have:=HK2.out;omega⟩,⟨by (with_reducible repeat (first|refine blk_drewN ?_ _|refine blk_drew ?_|refine blk_alloc ?_ _));refine blk_far ?_ NB187_189.out _;(with_reducible repeat (first|refine blk_drewN ?_ _|refine blk_drew ?_|refine blk_alloc ?_ _));refine blk_far ?_ NB187_189.out _;(with_reducible repeat (first|refine blk_drewN ?_ _|refine blk_drew ?_|refine blk_alloc ?_ _));refine blk_far ?_ NB187_189.out _;(with_reducible repeat (first|refine blk_drewN ?_ _|refine blk_drew ?_|refine blk_alloc ?_ _));(first|exact BK187.out|(have h_:=BK187.out;simp only [← hji11,← hji14] at h_;exact h_))⟩,⟨by repeat (first|(with_reducible first|exact HB.out|apply below_alloc|apply pw_below_drewN|apply below_drew1|refine below_set ?_ GE187.out|refine below_set ?_ GE189.out)|exact HB.out)⟩⟩
            ·rw [if_neg c13] at H
             exact absurd H (by simp)
           ·rw [if_neg c12] at H
            have c12b0 : ((Go.bits .and .u32 (ji11) 1) == 1) = false:=beq_eq_false_iff_ne.mpr c12
            have c12b1 : ((Go.bits .and .u32 (ji11) 1) != 1) = true:=bne_iff_ne.mpr c12
            have H':=Aside0.mk H
            clear H
            have p188 : 0 ≤ (x14_2 : Int):=of_decide_eq_true (by first|(with_reducible assumption)|assumption)
            have q188 : x14_2 < (l0_2.length : Int):=of_decide_eq_true (by first|(with_reducible assumption)|assumption)
            obtain ⟨ad188,e188,hx188_0,hx188_1,hx188_2⟩:=at_T42 HR0_2.out x14_2 p188 q188
            cases e188
            replace hx188_0:=(HB.out.cell (World.block_lt_of_cell? w _ hx188_0)).trans hx188_0
            replace hx188_1:=(HB.out.cell (World.block_lt_of_cell? w _ hx188_1)).trans hx188_1
            replace hx188_2:=(HB.out.cell (World.block_lt_of_cell? w _ hx188_2)).trans hx188_2
            replace p188:=eq_true p188
            replace q188:=eq_true q188
            go_wp2_with (first|((with_reducible refine gate_dst (N:=8) rfl ?_);refine box_event ?hg (N:=8) ?hd (cs:=#[.int .i64 0,.int .i64 0,.int .i64 0]) (t:=42) ?hr ?_;(case hd=>rfl);(case hg=>rfl);(case hr=>first|(go_simp;done)|(go_simp;rfl));intro gb189 hg w18 hbox hb;have n0_:=Aside0.mk (blk_below (g:=gb187) (o:=.cells #[.int .i64 a0_0,.int .i64 a0_1,.slice (some ad188) l0_2.length c0_2,.int .u32 a0_3,.int .u32 a0_4] 35 (0,0)) (by (with_reducible repeat (first|refine blk_drewN ?_ _|refine blk_drew ?_|refine blk_alloc ?_ _));exact BK187.out) hb);have n1_:=Aside0.mk (below_step (by repeat (first|(with_reducible first|exact HB.out|apply below_alloc|apply pw_below_drewN|apply below_drew1|refine below_set ?_ GE187.out)|exact HB.out)) hb);have n2_:=Aside0.mk (hbox);have n3_:=Aside0.mk ((by rw [hg];exact (below_size (by repeat (first|(with_reducible first|exact HB.out|apply below_alloc|apply pw_below_drewN|apply below_drew1|refine below_set ?_ GE187.out)|exact HB.out))) : w.heap.size ≤ gb189));have n4_:=Aside0.mk ((by rw [hg];exact (below_size (by repeat (first|(with_reducible first|exact HB.out|apply below_alloc|apply pw_below_drewN|apply below_drew1|refine below_set ?_ GE187.out)|exact HB.out))) : w.heap.size ≤ gb189));have n5_:=Aside0.mk ((by rw [hg];exact Nat.ne_of_lt (blk_lt (g:=gb187) (o:=.cells #[.int .i64 a0_0,.int .i64 a0_1,.slice (some ad188) l0_2.length c0_2,.int .u32 a0_3,.int .u32 a0_4] 35 (0,0)) (by (with_reducible repeat (first|refine blk_drewN ?_ _|refine blk_drew ?_|refine blk_alloc ?_ _));exact BK187.out)) : gb187 ≠ gb189));have n6_:=Aside0.mk ((by rw [hg];exact Nat.ne_of_gt (blk_lt (g:=gb187) (o:=.cells #[.int .i64 a0_0,.int .i64 a0_1,.slice (some ad188) l0_2.length c0_2,.int .u32 a0_3,.int .u32 a0_4] 35 (0,0)) (by (with_reducible repeat (first|refine blk_drewN ?_ _|refine blk_drew ?_|refine blk_alloc ?_ _));exact BK187.out)) : gb189 ≠ gb187));clear BK187;clear HB;have BK187:=n0_;have HB:=n1_;have BK189:=n2_;have GW189:=n3_;have GE189:=n4_;have NB187_189:=n5_;have NB189_187:=n6_;clear n0_ n1_ n2_ n3_ n4_ n5_ n6_;clear hb hbox hg;have hnb19:=NB189_187.out;have hnc19:=NB187_189.out;have hcz20_0 : w18.cell? ⟨gb189,0,none⟩ = some (.int .i64 0):=(blk_cell BK189.out 0).trans rfl;have hcz20_1 : w18.cell? ⟨gb189,1,none⟩ = some (.int .i64 0):=(blk_cell BK189.out 1).trans rfl;have hcz20_2 : w18.cell? ⟨gb189,2,none⟩ = some (.int .i64 0):=(blk_cell BK189.out 2).trans rfl;have hfz20_0:=blk_frozen BK189.out 0;have hfz20_1:=blk_frozen BK189.out 1;have hfz20_2:=blk_frozen BK189.out 2))
            first|go_roundg k2|((simp only [← hji11]);go_roundg k2)
            case measure=>have:=HK1.out;have:=HK2.out;omega
            case rel=>exact ⟨(x1_2),(wrap64 (x14_2 + 1)),(by first|rfl|(simp;done)|(simp [*];done)),(by first|rfl|(simp;done)|(simp [*];done)),(by first|exact H'|((simp only [hji11]);exact H')|(have h_:=H'.out;simp only [← hji11] at h_ ⊢;exact ⟨h_⟩)),⟨by have:=HK1.out;have:=HK2.out;omega⟩,⟨by (with_reducible repeat (first|refine blk_drewN ?_ _|refine blk_drew ?_|refine blk_alloc ?_ _));refine blk_far ?_ NB187_189.out _;(with_reducible repeat (first|refine blk_drewN ?_ _|refine blk_drew ?_|refine blk_alloc ?_ _));refine blk_far ?_ NB187_189.out _;(with_reducible repeat (first|refine blk_drewN ?_ _|refine blk_drew ?_|refine blk_alloc ?_ _));refine blk_far ?_ NB187_189.out _;(with_reducible repeat (first|refine blk_drewN ?_ _|refine blk_drew ?_|refine blk_alloc ?_ _));(first|exact BK187.out|(have h_:=BK187.out;simp only [← hji11] at h_;exact h_))⟩,⟨by repeat (first|(with_reducible first|exact HB.out|apply below_alloc|apply pw_below_drewN|apply below_drew1|refine below_set ?_ GE187.out|refine below_set ?_ GE189.out)|exact HB.out)⟩⟩
          ·rw [if_neg c10] at H
           exact absurd H (by simp)
         ·rw [if_neg c9] at H
          have c9b0 : decide (((rd_T42 l0_2 x14_2).f1) < 0) = false:=decide_eq_false c9
          clear c9
          have H':=Aside0.mk H
          clear H
          have p188 : 0 ≤ (x14_2 : Int):=of_decide_eq_true (by first|(with_reducible assumption)|assumption)
          have q188 : x14_2 < (l0_2.length : Int):=of_decide_eq_true (by first|(with_reducible assumption)|assumption)
          obtain ⟨ad188,e188,hx188_0,hx188_1,hx188_2⟩:=at_T42 HR0_2.out x14_2 p188 q188
          cases e188
          replace hx188_0:=(HB.out.cell (World.block_lt_of_cell? w _ hx188_0)).trans hx188_0
          replace hx188_1:=(HB.out.cell (World.block_lt_of_cell? w _ hx188_1)).trans hx188_1
          replace hx188_2:=(HB.out.cell (World.block_lt_of_cell? w _ hx188_2)).trans hx188_2
          replace p188:=eq_true p188
          replace q188:=eq_true q188
          go_wp2_with (first|((with_reducible refine gate_dst (N:=8) rfl ?_);refine box_event ?hg (N:=8) ?hd (cs:=#[.int .i64 0,.int .i64 0,.int .i64 0]) (t:=42) ?hr ?_;(case hd=>rfl);(case hg=>rfl);(case hr=>first|(go_simp;done)|(go_simp;rfl));intro gb189 hg w21 hbox hb;have n0_:=Aside0.mk (blk_below (g:=gb187) (o:=.cells #[.int .i64 a0_0,.int .i64 a0_1,.slice (some ad188) l0_2.length c0_2,.int .u32 a0_3,.int .u32 a0_4] 35 (0,0)) (by (with_reducible repeat (first|refine blk_drewN ?_ _|refine blk_drew ?_|refine blk_alloc ?_ _));exact BK187.out) hb);have n1_:=Aside0.mk (below_step (by repeat (first|(with_reducible first|exact HB.out|apply below_alloc|apply pw_below_drewN|apply below_drew1|refine below_set ?_ GE187.out)|exact HB.out)) hb);have n2_:=Aside0.mk (hbox);have n3_:=Aside0.mk ((by rw [hg];exact (below_size (by repeat (first|(with_reducible first|exact HB.out|apply below_alloc|apply pw_below_drewN|apply below_drew1|refine below_set ?_ GE187.out)|exact HB.out))) : w.heap.size ≤ gb189));have n4_:=Aside0.mk ((by rw [hg];exact (below_size (by repeat (first|(with_reducible first|exact HB.out|apply below_alloc|apply pw_below_drewN|apply below_drew1|refine below_set ?_ GE187.out)|exact HB.out))) : w.heap.size ≤ gb189));have n5_:=Aside0.mk ((by rw [hg];exact Nat.ne_of_lt (blk_lt (g:=gb187) (o:=.cells #[.int .i64 a0_0,.int .i64 a0_1,.slice (some ad188) l0_2.length c0_2,.int .u32 a0_3,.int .u32 a0_4] 35 (0,0)) (by (with_reducible repeat (first|refine blk_drewN ?_ _|refine blk_drew ?_|refine blk_alloc ?_ _));exact BK187.out)) : gb187 ≠ gb189));have n6_:=Aside0.mk ((by rw [hg];exact Nat.ne_of_gt (blk_lt (g:=gb187) (o:=.cells #[.int .i64 a0_0,.int .i64 a0_1,.slice (some ad188) l0_2.length c0_2,.int .u32 a0_3,.int .u32 a0_4] 35 (0,0)) (by (with_reducible repeat (first|refine blk_drewN ?_ _|refine blk_drew ?_|refine blk_alloc ?_ _));exact BK187.out)) : gb189 ≠ gb187));clear BK187;clear HB;have BK187:=n0_;have HB:=n1_;have BK189:=n2_;have GW189:=n3_;have GE189:=n4_;have NB187_189:=n5_;have NB189_187:=n6_;clear n0_ n1_ n2_ n3_ n4_ n5_ n6_;clear hb hbox hg;have hnb22:=NB189_187.out;have hnc22:=NB187_189.out;have hcz23_0 : w21.cell? ⟨gb189,0,none⟩ = some (.int .i64 0):=(blk_cell BK189.out 0).trans rfl;have hcz23_1 : w21.cell? ⟨gb189,1,none⟩ = some (.int .i64 0):=(blk_cell BK189.out 1).trans rfl;have hcz23_2 : w21.cell? ⟨gb189,2,none⟩ = some (.int .i64 0):=(blk_cell BK189.out 2).trans rfl;have hfz23_0:=blk_frozen BK189.out 0;have hfz23_1:=blk_frozen BK189.out 1;have hfz23_2:=blk_frozen BK189.out 2))
          go_roundg k2
          case measure=>have:=HK1.out;have:=HK2.out;omega
          case rel=>exact ⟨(x1_2),(wrap64 (x14_2 + 1)),(by first|rfl|(simp;done)|(simp [*];done)),(by first|rfl|(simp;done)|(simp [*];done)),H',⟨by have:=HK1.out;have:=HK2.out;omega⟩,⟨by (with_reducible repeat (first|refine blk_drewN ?_ _|refine blk_drew ?_|refine blk_alloc ?_ _));refine blk_far ?_ NB187_189.out _;(with_reducible repeat (first|refine blk_drewN ?_ _|refine blk_drew ?_|refine blk_alloc ?_ _));refine blk_far ?_ NB187_189.out _;(with_reducible repeat (first|refine blk_drewN ?_ _|refine blk_drew ?_|refine blk_alloc ?_ _));refine blk_far ?_ NB187_189.out _;(with_reducible repeat (first|refine blk_drewN ?_ _|refine blk_drew ?_|refine blk_alloc ?_ _));exact BK187.out⟩,⟨by repeat (first|(with_reducible first|exact HB.out|apply below_alloc|apply pw_below_drewN|apply below_drew1|refine below_set ?_ GE187.out|refine below_set ?_ GE189.out)|exact HB.out)⟩⟩
        ·rw [if_neg c8] at H
         exact absurd H (by simp)
       ·rw [if_neg c7] at H
        exact absurd H (by simp)
      ·rw [if_neg c6] at H
       have c6b0 : decide (x14_2 < (l0_2.length : Int)) = false:=decide_eq_false c6
       clear c6
       have H':=Aside0.mk H
       clear H
       go_wp2
       go_roundg k2
       case measure=>have:=HK1.out;have:=HK2.out;omega
       case rel=>exact ⟨(x1_2),((x1_2 != x1_1)),(by first|rfl|(simp;done)|(simp [*];done)),(by first|rfl|(simp;done)|(simp [*];done)),H',⟨by have:=HK1.out;have:=HK2.out;omega⟩,⟨by (with_reducible repeat (first|refine blk_drewN ?_ _|refine blk_drew ?_|refine blk_alloc ?_ _));exact BK187.out⟩,⟨by repeat (first|(with_reducible first|exact HB.out|apply below_alloc|apply pw_below_drewN|apply below_drew1|refine below_set ?_ GE187.out)|exact HB.out)⟩⟩
   ·replace c4:=Bool.eq_false_iff.mpr c4
    subst c4
    have H1 : (some x1_1) = some r:=by rw [if_neg (show ¬ (false = true) by decide)] at H;exact H
    clear H
    have H:=H1
    clear H1
    obtain rfl:=Option.some.inj H
    go_wp2
    go_ret
    exact ⟨by first|rfl|(simp [errW_none,errW_some] <;> rfl)|(simp [*,errW_none,errW_some] <;> rfl),by repeat (first|(with_reducible first|exact HB.out|apply below_alloc|apply pw_below_drewN|apply below_drew1|refine below_set ?_ GE187.out)|exact HB.out)⟩
end Go.Proofs.Ytkalcljgcigdgaa.GS
